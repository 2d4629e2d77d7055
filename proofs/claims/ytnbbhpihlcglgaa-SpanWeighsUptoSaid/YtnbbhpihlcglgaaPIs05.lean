/- attestlaw05.Is -/
import Derived.Test.YtnbbhpihlcglgaaRatPlain
import Derived.Test.YtnbbhpihlcglgaaRatAll
import Derived.Test.YtnbbhpihlcglgaaRefAll
namespace Go.Proofs.Ytnbbhpihlcglgaa
open Go.RowKit Go.Att

theorem is_yes {w : World} {va vb : Value} {q : Rat} (hp : RdQ w va q) (hq : RdP w vb q) (sq : Sz 1000000 q) :
    Calls Try.prog 47 #[va, vb] w (Gives w fun v' _ => v' = .bool true) := by
  refine via fun R hR => ?_
  have HP := Lib.hid hp
  obtain ⟨n, d, rfl, hn, hd⟩ := hp
  obtain ⟨m, c, rfl, hm, hc⟩ := hq
  have HM := Lib.hid hm
  have HC := Lib.hid hc
  have SQ := Lib.hid sq
  have SB := Lib.hid sq.bits
  clear hn hd hm hc sq
  obtain ⟨w1, hw1, b1, c1, c2, z1⟩ := box2 w (.bool (decide (q.num < 0))) n d (.bool (decide (q.num < 0))) m c 32 46
  have C2 := Lib.hid c2
  have HW := Lib.hid hw1
  clear c1 c2 hw1
  go_enter Try.func47, Try.ntmps47
  go_wp2_with fail
  rw [← HW.out]
  clear HW
  refine (parts_any (HP.out.ext b1) SQ.out.1 SQ.out.2).mono ?_
  rintro e w2 ⟨_, rfl, b2, v2, v3, rfl, o2, o3⟩
  have O2 := Lib.hid o2
  have OD := Lib.hid o3
  clear o2 o3
  obtain ⟨k0, k1, k2⟩ := C2.out.ext b2
  go_upto_region 2 with (fail)
  cases hs : decide (q.num < 0) <;> rw [hs] at k0
  · skip
    go_wp2_with fail
    refine (To_any (HM.out.ext (Ext.trans b1 b2)) (by have := SB.out.1; omega)).mono ?_
    rintro e w3 ⟨v3, rfl, b3, o3⟩
    have O3 := Lib.hid o3
    clear o3
    go_wp2_with fail
    refine (Same_yes (O2.out.rd.ext b3) O3.out.rd (by rw [bval_bitsOf])).mono ?_
    rintro e w4 ⟨_, rfl, b4, rfl⟩
    obtain ⟨k0, k1, k2⟩ := C2.out.ext (Ext.trans b2 (Ext.trans b3 b4))
    rw [hs] at k0
    go_wp2_with fail
    refine (To_any (HC.out.ext (Ext.trans b1 (Ext.trans b2 (Ext.trans b3 b4)))) (by have := SB.out.2; omega)).mono ?_
    rintro e w5 ⟨v5, rfl, b5, o5⟩
    have O5 := Lib.hid o5
    clear o5
    go_wp2_with fail
    refine (Same_yes (OD.out.rd.ext (Ext.trans b3 (Ext.trans b4 b5))) O5.out.rd (by rw [bval_bitsOf])).mono ?_
    rintro e w6 ⟨_, rfl, b6, rfl⟩
    go_wp2_with fail
    exact hR.out _ _ (Gives.mk (Ext.trans b1 (Ext.trans b2 (Ext.trans b3 (Ext.trans b4 (Ext.trans b5 b6))))) rfl)
  · skip
    go_wp2_with fail
    refine (To_any (HM.out.ext (Ext.trans b1 b2)) (by have := SB.out.1; omega)).mono ?_
    rintro e w3 ⟨v3, rfl, b3, o3⟩
    have O3 := Lib.hid o3
    clear o3
    go_wp2_with fail
    refine (Same_yes (O2.out.rd.ext b3) O3.out.rd (by rw [bval_bitsOf])).mono ?_
    rintro e w4 ⟨_, rfl, b4, rfl⟩
    obtain ⟨k0, k1, k2⟩ := C2.out.ext (Ext.trans b2 (Ext.trans b3 b4))
    rw [hs] at k0
    go_wp2_with fail
    refine (To_any (HC.out.ext (Ext.trans b1 (Ext.trans b2 (Ext.trans b3 b4)))) (by have := SB.out.2; omega)).mono ?_
    rintro e w5 ⟨v5, rfl, b5, o5⟩
    have O5 := Lib.hid o5
    clear o5
    go_wp2_with fail
    refine (Same_yes (OD.out.rd.ext (Ext.trans b3 (Ext.trans b4 b5))) O5.out.rd (by rw [bval_bitsOf])).mono ?_
    rintro e w6 ⟨_, rfl, b6, rfl⟩
    go_wp2_with fail
    exact hR.out _ _ (Gives.mk (Ext.trans b1 (Ext.trans b2 (Ext.trans b3 (Ext.trans b4 (Ext.trans b5 b6))))) rfl)
end Go.Proofs.Ytnbbhpihlcglgaa
