/- attestlaw02.awake -/
import Derived.Test.YtndjddeiilggpaaDoorPLits
import Derived.Test.YtndjddeiilggpaaDoorPLimbSub
import Derived.Test.YtndjddeiilggpaaDoorPLimbBits
import Derived.Test.YtndjddeiilggpaaDoorPRefSame
namespace Go.Proofs.YtndjddeiilggpaaDoor
open Go.RowKit Go.Att

theorem blen33 : blen (nv [0, 1]) = 33 := by
  have h1 := (blen_le 4294967296 33).2 (by omega)
  have h2 : ¬ blen 4294967296 ≤ 32 := fun h => by have := (blen_le 4294967296 32).1 h; omega
  have e : nv [0, 1] = 4294967296 := by decide
  rw [e]
  omega

theorem awake02 {w : World} : Calls Tryd.prog 5 #[] w (Gives w fun v' _ => v' = .bool true) := by
  refine via fun R hR => ?_
  go_enter Tryd.func5, Tryd.ntmps5
  go_wp2_with fail
  refine (sub_yes (xa := [0, 1]) (xb := [1]) ((lit2_rd w 0 1 (by decide) (by decide)).ext (Ext.alloc _ _)) (by have := lit1_rd (w.alloc (.cells #[.int .u32 0, .int .u32 1] 34)) 1 (by decide); simpa using this) (by decide) (by simp)).mono ?_
  rintro e w1 ⟨_, rfl, b1, v1, rfl, o1⟩
  have O1 := Lib.hid o1
  clear o1
  go_wp2_with fail
  refine (Same_yes (O1.out.rd.ext (Ext.alloc _ _)) (lit1_rd _ 4294967295 (by decide)) (limbs_one (d := nv [0, 1] - nv [1]) (by decide) (by decide))).mono ?_
  rintro e w2 ⟨_, rfl, b2, rfl⟩
  go_wp2_with fail
  refine (bits_any (lit2_rd _ 0 1 (by decide) (by decide)) (by simp)).mono ?_
  rintro e w3 ⟨_, rfl, b3, rfl⟩
  rw [blen33]
  go_wp2
  refine hR.out _ _ (Gives.mk ?_ rfl)
  exact Ext.trans (Ext.trans (Ext.alloc _ _) (Ext.alloc _ _)) (Ext.trans b1 (Ext.trans (Ext.trans (Ext.alloc _ _) b2) (Ext.trans (Ext.alloc _ _) b3)))
end Go.Proofs.YtndjddeiilggpaaDoor
