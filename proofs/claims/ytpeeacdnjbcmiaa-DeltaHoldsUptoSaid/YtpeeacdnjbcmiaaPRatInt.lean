/- rat.Int -/
import Derived.Test.YtpeeacdnjbcmiaaRatPlain
import Derived.Test.YtpeeacdnjbcmiaaLimbAll
namespace Go.Proofs.Ytpeeacdnjbcmiaa
open Go.RowKit Go.Att

theorem rint_any {w : World} {u : Int} (hu : -9223372036854775808 ≤ u ∧ u ≤ 9223372036854775807) :
    Calls Try.prog 62 #[.int .i64 u] w (Gives w fun v' w' => OwnQ 148 w.heap.size w' v' (u : Rat)) := by
  refine via fun R hR => ?_
  obtain ⟨w1, hw1, b1, c3, z1⟩ := boxR w (.bool false) (.slice none 0 0) (.slice none 0 0) 28
  have C3 := Lib.hid c3
  have HW := Lib.hid hw1
  clear c3 hw1
  have hden : (u : Rat).den = 1 := rfl
  have hnum : (u : Rat).num = u := rfl
  generalize (u : Rat) = r at hR hden hnum
  have HDEN : Hid (dens r.den = []) := by show _ = _; rw [hden]; rfl
  by_cases h0 : u < 0
  · obtain ⟨n, hn⟩ : ∃ n : Nat, u = -(n : Int) := ⟨u.natAbs, by omega⟩
    have e : IntKind.u64.wrap (-IntKind.u64.wrap (-(n : Int))) = n := by simp [IntKind.wrap, IntKind.bits, IntKind.signed]; omega
    have HNUM : Hid (r.num.natAbs = n) := by show _ = _; rw [hnum]; omega
    have HSG : Hid (true = decide (r.num < 0)) := by show _ = _; rw [hnum]; simp [h0]
    have hn64 : n ≤ 9223372036854775808 := by omega
    clear hnum hden
    go_enter Try.func62, Try.ntmps62
    go_wp2_with fail
    rw [← HW.out]
    clear HW
    refine (word_any n (by omega)).mono ?_
    rintro e w2 ⟨v2, rfl, b2, o2⟩
    have O2 := Lib.hid o2
    clear o2
    obtain ⟨a2, c2, rfl, -, -, -, -⟩ := O2.out.rd.1.shape
    obtain ⟨_, _, _, j0, j1, j2, g0, g1, g2⟩ := (C3.out.ext b2).cells
    go_wp2_with fail
    refine bodyPost_ret (v := .agg #[.bool true, .slice a2 (limbs n).length c2, .slice none 0 0]) (by simp [results, Try.results62, go_sem, j0, j1, j2]) rfl ?_
    exact hR.out _ _ (Gives.mk (put3_below (Ext.trans b1 b2) (Nat.le_refl _) _ _ _) ⟨_, _, agg_eq HSG.out, by rw [HNUM.out]; exact (O2.out.put (by omega) _ _ _).mono (by omega), by rw [HDEN.out]; exact ⟨OwnI.nil _ _ _ _, Fit.nil _⟩⟩)
  · obtain ⟨n, rfl⟩ := Int.eq_ofNat_of_zero_le (show 0 ≤ u by omega)
    have e : IntKind.u64.wrap (n : Int) = n := by simp [IntKind.wrap, IntKind.bits, IntKind.signed]; omega
    have HNUM : Hid (r.num.natAbs = n) := by show _ = _; rw [hnum]; omega
    have HSG : Hid (false = decide (r.num < 0)) := by show _ = _; rw [hnum]; simp
    have hn64 : n ≤ 9223372036854775808 := by omega
    clear hnum hden
    go_enter Try.func62, Try.ntmps62
    go_wp2_with fail
    rw [← HW.out]
    clear HW
    refine (word_any n (by omega)).mono ?_
    rintro e w2 ⟨v2, rfl, b2, o2⟩
    have O2 := Lib.hid o2
    clear o2
    obtain ⟨a2, c2, rfl, -, -, -, -⟩ := O2.out.rd.1.shape
    obtain ⟨_, _, _, j0, j1, j2, g0, g1, g2⟩ := (C3.out.ext b2).cells
    go_wp2_with fail
    refine bodyPost_ret (v := .agg #[.bool false, .slice a2 (limbs n).length c2, .slice none 0 0]) (by simp [results, Try.results62, go_sem, j0, j1, j2]) rfl ?_
    exact hR.out _ _ (Gives.mk (put3_below (Ext.trans b1 b2) (Nat.le_refl _) _ _ _) ⟨_, _, agg_eq HSG.out, by rw [HNUM.out]; exact (O2.out.put (by omega) _ _ _).mono (by omega), by rw [HDEN.out]; exact ⟨OwnI.nil _ _ _ _, Fit.nil _⟩⟩)
end Go.Proofs.Ytpeeacdnjbcmiaa
