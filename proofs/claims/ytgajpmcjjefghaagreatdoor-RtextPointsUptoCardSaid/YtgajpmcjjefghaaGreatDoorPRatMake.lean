/- rat.Make -/
import Derived.Test.YtgajpmcjjefghaaGreatDoorPRatMade
import Derived.Test.YtgajpmcjjefghaaGreatDoorLimbAll
namespace Go.Proofs.YtgajpmcjjefghaaGreatDoor
open Go.RowKit Go.Att

theorem make_no {w : World} {s : Bool} {va vb : Value} {xb : List Nat} (hb : RdL w vb xb) (hnb : xb.length ≤ 1000000000) (h0 : nv xb = 0) :
    Calls Tryz.prog 24 #[.bool s, va, vb] w (Gives w fun v' _ => v' = .tuple #[.agg #[.bool false, .slice none 0 0, .slice none 0 0], .bool false]) := by
  refine via fun R hR => ?_
  have HB := Lib.hid hb
  obtain ⟨w1, hw1, b1, c3, z1⟩ := boxR w (.bool false) (.slice none 0 0) (.slice none 0 0) 26
  have C3 := Lib.hid c3
  have HW := Lib.hid hw1
  have e0 : blen (nv xb) = 0 := by rw [h0, blen_zero]
  clear c3 hw1 hb h0
  go_enter Tryz.func24, Tryz.ntmps24
  go_wp2_with fail
  rw [← HW.out]
  clear HW
  go_wp2_with fail
  refine (bits_any (HB.out.ext b1) (by omega)).mono ?_
  rintro e w2 ⟨_, rfl, b2, rfl⟩
  rw [e0]
  obtain ⟨_, _, _, j0, j1, j2, g0, g1, g2⟩ := (C3.out.ext b2).cells
  clear e0
  go_wp2_with fail
  refine bodyPost_ret (v := .tuple #[.agg #[.bool false, .slice none 0 0, .slice none 0 0], .bool false]) (by simp [results, Tryz.results24, go_sem, j0, j1, j2]) rfl ?_
  exact hR.out _ _ (Gives.mk (put3_below (Ext.trans b1 b2) (Nat.le_refl _) _ _ _) rfl)

theorem make_any {w : World} {s : Bool} {va vb : Value} {xa xb : List Nat} {r : Rat} (ha : RdL w va xa) (hb : RdL w vb xb) (hna : xa.length ≤ 1000000000) (hnb : xb.length ≤ 1000000000) (h0 : nv xb ≠ 0) (hr : mkQ s (nv xa) (nv xb) = r) :
    Calls Tryz.prog 24 #[.bool s, va, vb] w (Gives w fun v' w' => ∃ o, v' = .tuple #[o, .bool true] ∧ OwnQ 57 w.heap.size w' o r) := by
  refine via fun R hR => ?_
  have HA := Lib.hid ha
  have HB := Lib.hid hb
  have H0 := Lib.hid h0
  have HRR := Lib.hid hr
  obtain ⟨w1, hw1, b1, c3, z1⟩ := boxR w (.bool false) (.slice none 0 0) (.slice none 0 0) 26
  have C3 := Lib.hid c3
  have HW := Lib.hid hw1
  have e0 : ((blen (nv xb) : Int) == 0) = false := beqF (by have := blen_pos h0; omega)
  clear c3 hw1 ha hb h0 hr
  go_enter Tryz.func24, Tryz.ntmps24
  go_wp2_with fail
  rw [← HW.out]
  clear HW
  go_wp2_with fail
  refine (bits_any (HB.out.ext b1) (by omega)).mono ?_
  rintro e w2 ⟨_, rfl, b2, rfl⟩
  go_wp2_with fail
  refine (made_to (HA.out.ext (Ext.trans b1 b2)) (HB.out.ext (Ext.trans b1 b2)) (by omega) (by omega) H0.out HRR.out).mono ?_
  rintro e w3 ⟨_, rfl, b3, n3, d3, rfl, on3, od3⟩
  have ON3 := Lib.hid on3
  have OD3 := Lib.hid od3
  clear on3 od3
  obtain ⟨an3, cn3, rfl, -, -, -, -⟩ := ON3.out.rd.1.shape
  obtain ⟨ad3, cd3, rfl, -, -, -, -⟩ := OD3.out.rd.1.shape
  obtain ⟨_, _, _, j0, j1, j2, g0, g1, g2⟩ := (C3.out.ext (Ext.trans b2 b3)).cells
  have hz := Lib.hid b2.size
  go_wp2_with fail
  refine bodyPost_ret (v := .tuple #[.agg #[.bool (decide (r.num < 0)), .slice an3 (limbs r.num.natAbs).length cn3, .slice ad3 (dens r.den).length cd3], .bool true]) (by simp [results, Tryz.results24, go_sem, j0, j1, j2]) rfl ?_
  exact hR.out _ _ (Gives.mk (put3_below (Ext.trans b1 (Ext.trans b2 b3)) (Nat.le_refl _) _ _ _) ⟨_, rfl, _, _, rfl, (ON3.out.put (by have := hz.out; omega) _ _ _).mono (by have := hz.out; omega), (OD3.out.put (by have := hz.out; omega) _ _ _).mono (by have := hz.out; omega)⟩)
end Go.Proofs.YtgajpmcjjefghaaGreatDoor
