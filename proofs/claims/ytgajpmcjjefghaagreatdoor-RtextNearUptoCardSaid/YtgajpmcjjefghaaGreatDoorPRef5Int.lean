/- attestref05.Int -/
import Derived.Test.YtgajpmcjjefghaaGreatDoorRatPlain
import Derived.Test.YtgajpmcjjefghaaGreatDoorRefAll
namespace Go.Proofs.YtgajpmcjjefghaaGreatDoor
open Go.RowKit Go.Att

theorem r5int_any {w : World} {u : Int} (hu : -9223372036854775808 ≤ u ∧ u ≤ 9223372036854775807) :
    Calls Tryz.prog 21 #[.int .i64 u] w (Gives w fun v' w' => OwnP 4 w.heap.size w' v' (u : Rat)) := by
  refine via fun R hR => ?_
  obtain ⟨w1, hw1, b1, c3, z1⟩ := boxR w (.bool false) (.slice none 0 0) (.slice none 0 0) 29
  have C3 := Lib.hid c3
  have HW := Lib.hid hw1
  clear c3 hw1
  have hden : (u : Rat).den = 1 := rfl
  have hnum : (u : Rat).num = u := rfl
  generalize (u : Rat) = r at hR hden hnum
  have HDEN : Hid (r.den = 1) := hden
  by_cases h0 : u < 0
  · obtain ⟨n, hn⟩ : ∃ n : Nat, u = -(n : Int) - 1 := ⟨u.natAbs - 1, by omega⟩
    have e0 : IntKind.i64.wrap (u + 1) = -(n : Int) := by simp [IntKind.wrap, IntKind.bits, IntKind.signed]; omega
    have e1 : IntKind.i64.wrap (-(-(n : Int))) = n := by simp [IntKind.wrap, IntKind.bits, IntKind.signed]; omega
    have e : IntKind.u64.wrap (n : Int) = n := by simp [IntKind.wrap, IntKind.bits, IntKind.signed]; omega
    have HNUM : Hid (r.num.natAbs = n + 1) := by show _ = _; rw [hnum]; omega
    have HSG : Hid (true = decide (r.num < 0)) := by show _ = _; rw [hnum]; simp [h0]
    have hn64 : n ≤ 9223372036854775807 := by omega
    clear hnum hden hn
    go_enter Tryz.func21, Tryz.ntmps21
    go_wp2_with fail
    rw [← HW.out]
    clear HW
    refine (rWord_any n (by omega)).mono ?_
    rintro e w2 ⟨v2, rfl, b2, o2⟩
    have O2 := Lib.hid o2
    clear o2
    go_wp2_with fail
    refine (rWord_any 1 (by omega)).mono ?_
    rintro e w3 ⟨v3, rfl, b3, o3⟩
    have O3 := Lib.hid o3
    clear o3
    go_wp2_with fail
    refine (rAdd_any (O2.out.rd.ext b3) O3.out.rd (by have := (bitsOf_len n 64).2 (by omega); omega) (by have := (bitsOf_len 1 1).2 (by decide); omega)).mono ?_
    rintro e w4 ⟨v4, rfl, b4, o4⟩
    have O4 := Lib.hid o4
    clear o4
    rw [bval_bitsOf, bval_bitsOf] at O4
    go_wp2_with fail
    refine (rWord_any 1 (by omega)).mono ?_
    rintro e w5 ⟨v5, rfl, b5, o5⟩
    have O5 := Lib.hid o5
    clear o5 O2 O3
    obtain ⟨a2, c2, rfl, -, -, -, -⟩ := O4.out.rd.shape
    obtain ⟨a3, c3, rfl, -, -, -, -⟩ := O5.out.rd.shape
    obtain ⟨_, _, _, j0, j1, j2, g0, g1, g2⟩ := (C3.out.ext (Ext.trans b2 (Ext.trans b3 (Ext.trans b4 b5)))).cells
    go_wp2_with fail
    refine bodyPost_ret (v := .agg #[.bool true, .slice a2 (bitsOf (n + 1)).length c2, .slice a3 (bitsOf 1).length c3]) (by simp [results, Tryz.results21, go_sem, j0, j1, j2]) rfl ?_
    have hz := Lib.hid (Below.size (Ext.trans b2 b3))
    exact hR.out _ _ (Gives.mk (put3_below (Ext.trans b1 (Ext.trans b2 (Ext.trans b3 (Ext.trans b4 b5)))) (Nat.le_refl _) _ _ _) ⟨_, _, agg_eq HSG.out, by rw [HNUM.out]; exact ((O4.out.ext b5).put (by have := hz.out; omega) _ _ _).mono (by have := hz.out; omega), by rw [HDEN.out]; exact (O5.out.put (by have := hz.out; have := b4.size; omega) _ _ _).mono (by have := hz.out; have := b4.size; omega)⟩)
  · obtain ⟨n, rfl⟩ := Int.eq_ofNat_of_zero_le (show 0 ≤ u by omega)
    have e : IntKind.u64.wrap (n : Int) = n := by simp [IntKind.wrap, IntKind.bits, IntKind.signed]; omega
    have HNUM : Hid (r.num.natAbs = n) := by show _ = _; rw [hnum]; omega
    have HSG : Hid (false = decide (r.num < 0)) := by show _ = _; rw [hnum]; simp
    have hn64 : n ≤ 9223372036854775808 := by omega
    clear hnum hden
    go_enter Tryz.func21, Tryz.ntmps21
    go_wp2_with fail
    rw [← HW.out]
    clear HW
    refine (rWord_any n (by omega)).mono ?_
    rintro e w2 ⟨v2, rfl, b2, o2⟩
    have O2 := Lib.hid o2
    clear o2
    go_wp2_with fail
    refine (rWord_any 1 (by omega)).mono ?_
    rintro e w3 ⟨v3, rfl, b3, o3⟩
    have O3 := Lib.hid o3
    clear o3
    obtain ⟨a2, c2, rfl, -, -, -, -⟩ := O2.out.rd.shape
    obtain ⟨a3, c3, rfl, -, -, -, -⟩ := O3.out.rd.shape
    obtain ⟨_, _, _, j0, j1, j2, g0, g1, g2⟩ := (C3.out.ext (Ext.trans b2 b3)).cells
    go_wp2_with fail
    refine bodyPost_ret (v := .agg #[.bool false, .slice a2 (bitsOf n).length c2, .slice a3 (bitsOf 1).length c3]) (by simp [results, Tryz.results21, go_sem, j0, j1, j2]) rfl ?_
    exact hR.out _ _ (Gives.mk (put3_below (Ext.trans b1 (Ext.trans b2 b3)) (Nat.le_refl _) _ _ _) ⟨_, _, agg_eq HSG.out, by rw [HNUM.out]; exact ((O2.out.ext b3).put (by omega) _ _ _).mono (by omega), by rw [HDEN.out]; exact (O3.out.put (by have := b2.size; omega) _ _ _).mono (by have := b2.size; omega)⟩)
end Go.Proofs.YtgajpmcjjefghaaGreatDoor
