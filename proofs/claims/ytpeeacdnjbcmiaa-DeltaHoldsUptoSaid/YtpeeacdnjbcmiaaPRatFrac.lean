/- rat.Frac -/
import Derived.Test.YtpeeacdnjbcmiaaPRatInt
import Derived.Test.YtpeeacdnjbcmiaaPRatDiv
namespace Go.Proofs.Ytpeeacdnjbcmiaa
open Go.RowKit Go.Att

theorem Sz.int (u : Int) (hu : -9223372036854775808 ≤ u ∧ u ≤ 9223372036854775807) : Sz 2 (u : Rat) :=
  ⟨(limbs_len _ _).2 (by rw [Rat.num_intCast]; have : W32 ^ 2 = 18446744073709551616 := rfl; omega), Nat.le_trans limbs_one_len (by decide)⟩

theorem rfrac_no {w : World} {u : Int} :
    Calls Try.prog 60 #[.int .i64 u, .int .i64 0] w (Gives w fun v' _ => v' = .tuple #[.agg #[.bool false, .slice none 0 0, .slice none 0 0], .bool false]) := by
  refine via fun R hR => ?_
  go_enter Try.func60, Try.ntmps60
  go_wp2_with fail
  refine bodyPost_ret (v := .tuple #[.agg #[.bool false, .slice none 0 0, .slice none 0 0], .bool false]) (by simp [results, Try.results60, go_sem]) rfl ?_
  exact hR.out _ _ (Gives.mk (Ext.alloc _ _) rfl)

theorem rfrac_any {w : World} {u v : Int} (hu : -9223372036854775808 ≤ u ∧ u ≤ 9223372036854775807) (hv : -9223372036854775808 ≤ v ∧ v ≤ 9223372036854775807) (h0 : v ≠ 0) :
    Calls Try.prog 60 #[.int .i64 u, .int .i64 v] w (Gives w fun v' w' => ∃ o, v' = .tuple #[o, .bool true] ∧ OwnQ 148 w.heap.size w' o ((u : Rat) / (v : Rat))) := by
  refine via fun R hR => ?_
  generalize hr : (u : Rat) / (v : Rat) = r at hR
  have HRR := Lib.hid hr
  have H0 := Lib.hid h0
  have e0 : (v == 0) = false := by simp [h0]
  obtain ⟨w1, hw1, b1, c3, z1⟩ := boxR w (.bool false) (.slice none 0 0) (.slice none 0 0) 28
  have C3 := Lib.hid c3
  have HW := Lib.hid hw1
  clear c3 hw1 hr h0
  go_enter Try.func60, Try.ntmps60
  go_wp2_with fail
  rw [← HW.out]
  clear HW
  refine (rint_any hu).mono ?_
  rintro e w2 ⟨v2, rfl, b2, o2⟩
  have O2 := Lib.hid o2
  clear o2
  go_wp2_with fail
  refine (rint_any hv).mono ?_
  rintro e w3 ⟨v3, rfl, b3, o3⟩
  have O3 := Lib.hid o3
  clear o3
  go_wp2_with fail
  refine (HRR.out ▸ rdiv_any (O2.out.rd.ext b3) O3.out.rd ((Sz.int u hu).le (by decide)) ((Sz.int v hv).le (by decide)) (by rw [Rat.num_intCast]; exact H0.out)).mono ?_
  rintro e w4 ⟨_, rfl, b4, _, rfl, n4, d4, rfl, on4, od4⟩
  have ON4 := Lib.hid on4
  have OD4 := Lib.hid od4
  clear on4 od4
  obtain ⟨an4, cn4, rfl, -, -, -, -⟩ := ON4.out.rd.1.shape
  obtain ⟨ad4, cd4, rfl, -, -, -, -⟩ := OD4.out.rd.1.shape
  obtain ⟨w5, hw5, b5, c4, _, z5⟩ := box1 w4 (.bool (decide (r.num < 0))) (.slice an4 (limbs r.num.natAbs).length cn4) (.slice ad4 (dens r.den).length cd4) 28
  have HW := Lib.hid hw5
  have C4 := Lib.hid c4
  clear hw5 c4
  go_upto_region 4 with (fail)
  rw [← HW.out]
  clear HW
  obtain ⟨l0, l1, l2⟩ := C4.out
  obtain ⟨_, _, _, j0, j1, j2, g0, g1, g2⟩ := (C3.out.ext (Ext.trans b2 (Ext.trans b3 (Ext.trans b4 b5)))).cells
  have hz := Lib.hid (Below.size (Ext.trans b2 b3))
  go_wp2_with fail
  refine bodyPost_ret (v := .tuple #[.agg #[.bool (decide (r.num < 0)), .slice an4 (limbs r.num.natAbs).length cn4, .slice ad4 (dens r.den).length cd4], .bool true]) (by simp [results, Try.results60, go_sem, j0, j1, j2]) rfl ?_
  exact hR.out _ _ (Gives.mk (put3_below (Ext.trans b1 (Ext.trans b2 (Ext.trans b3 (Ext.trans b4 b5)))) (Nat.le_refl _) _ _ _) ⟨_, rfl, _, _, rfl, ((ON4.out.ext b5).put (by have := hz.out; omega) _ _ _).mono (by have := hz.out; omega), ((OD4.out.ext b5).put (by have := hz.out; omega) _ _ _).mono (by have := hz.out; omega)⟩)
end Go.Proofs.Ytpeeacdnjbcmiaa
