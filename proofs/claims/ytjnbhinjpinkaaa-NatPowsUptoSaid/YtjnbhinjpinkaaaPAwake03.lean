/- attestlaw03.awake -/
import Derived.Test.YtjnbhinjpinkaaaNatAll
import Derived.Test.YtjnbhinjpinkaaaRefAll
import Derived.Test.YtjnbhinjpinkaaaLimbAll
namespace Go.Proofs.Ytjnbhinjpinkaaa
open Go.RowKit Go.Att

theorem awake03 {w : World} : Calls Try.prog 15 #[] w (Gives w fun v' _ => v' = .bool true) := by
  refine via fun R hR => ?_
  go_enter Try.func15, Try.ntmps15
  go_wp2_with fail
  refine (divmod_any (xa := [7]) (xb := [2]) ((lit1_rd w 7 (by decide)).ext (Ext.alloc _ _)) (by have := lit1_rd (w.alloc (.cells #[.int .u32 7] 90)) 2 (by decide); simpa using this) (by simp) (by simp) (by decide)).mono ?_
  rintro e w1 ⟨_, rfl, b1, q1, r1, rfl, o1, p1⟩
  have O1 := Lib.hid o1
  have P1 := Lib.hid p1
  clear o1 p1
  go_wp2_with fail
  refine (Same_yes (O1.out.rd.ext (Ext.alloc _ _)) (lit1_rd _ 3 (by decide)) (limbs_one (d := nv [7] / nv [2]) (by decide) (by decide))).mono ?_
  rintro e w2 ⟨_, rfl, b2, rfl⟩
  have X2 : Ext w1 w2 := Ext.trans (Ext.alloc _ _) b2
  go_wp2_with fail
  refine (Same_yes (P1.out.rd.ext (Ext.trans X2 (Ext.alloc _ _))) (lit1_rd _ 1 (by decide)) (limbs_one (d := nv [7] % nv [2]) (by decide) (by decide))).mono ?_
  rintro e w3 ⟨_, rfl, b3, rfl⟩
  go_wp2_with fail
  refine (mul_any (xa := [3]) (xb := [5]) ((lit1_rd w3 3 (by decide)).ext (Ext.alloc _ _)) (by have := lit1_rd (w3.alloc (.cells #[.int .u32 3] 90)) 5 (by decide); simpa using this) (by simp) (by simp)).mono ?_
  rintro e w4 ⟨v4, rfl, b4, o4⟩
  have O4 := Lib.hid o4
  clear o4
  go_wp2_with fail
  refine (Same_yes (O4.out.rd.ext (Ext.alloc _ _)) (lit1_rd _ 15 (by decide)) (limbs_one (d := nv [3] * nv [5]) (by decide) (by decide))).mono ?_
  rintro e w5 ⟨_, rfl, b5, rfl⟩
  have X3 : Ext w2 w3 := Ext.trans (Ext.alloc _ _) b3
  have X4 : Ext w3 w4 := Ext.trans (Ext.trans (Ext.alloc _ _) (Ext.alloc _ _)) b4
  have X5 : Ext w4 w5 := Ext.trans (Ext.alloc _ _) b5
  have X1 : Ext w w1 := Ext.trans (Ext.trans (Ext.alloc _ _) (Ext.alloc _ _)) b1
  go_wp2
  exact hR.out _ _ (Gives.mk (Ext.trans X1 (Ext.trans X2 (Ext.trans X3 (Ext.trans X4 X5)))) rfl)
end Go.Proofs.Ytjnbhinjpinkaaa
