/- attestref05.Of -/
import Derived.Test.YtgajpmcjjefghaaGreatDoorRatPlain
import Derived.Test.YtgajpmcjjefghaaGreatDoorRefAll
import Derived.Deep.RegionHeld3
namespace Go.Proofs.YtgajpmcjjefghaaGreatDoor
open Go.RowKit Go.Att

theorem r5of_any {w : World} {s : Bool} {va vb : Value} {n d B : Nat} (hB : B ≤ w.heap.size) (ha : OwnB 4 B w va (bitsOf n)) (hb : OwnB 4 B w vb (bitsOf d)) (hna : (bitsOf n).length ≤ 100000000) (hnb : (bitsOf d).length ≤ 100000000) (h0 : d ≠ 0) :
    Calls Tryz.prog 26 #[.bool s, va, vb] w (Gives w fun v' w' => OwnP 4 B w' v' (mkQ s n d)) := by
  refine via fun R hR => ?_
  have HA := Lib.hid ha
  have HB := Lib.hid hb
  have H0 := Lib.hid h0
  have hE : Hid (∀ t : Bool, t = (s && decide (0 < n / Nat.gcd n d)) → t = decide ((mkQ s n d).num < 0)) := fun t ht => by rw [ht, mkQ_neg _ _ _ h0]
  have hF : Hid ((mkQ s n d).num.natAbs = n / Nat.gcd n d) := mkQ_abs _ _ _ h0
  have hG : Hid ((mkQ s n d).den = d / Nat.gcd n d) := mkQ_den _ _ _ h0
  obtain ⟨a, ca, rfl, -, -, -, -⟩ := ha.rd.shape
  obtain ⟨b, cb, rfl, -, -, -, -⟩ := hb.rd.shape
  clear ha hb h0
  by_cases hd : d = 1
  · have hg : Hid (Nat.gcd n d = 1) := by show _ = _; rw [hd, Nat.gcd_one_right]
    have hl : (((bitsOf d).length : Int) == 1) = true := beqT (by have := (bits_one d).2 hd; omega)
    clear hd
    cases s
    · skip
      go_enter Tryz.func26, Tryz.ntmps26
      go_wp2_with fail
      refine bodyPost_ret (v := .agg #[.bool false, .slice a (bitsOf n).length ca, .slice b (bitsOf d).length cb]) (by simp [results, Tryz.results26, go_sem]) rfl ?_
      exact hR.out _ _ (Gives.mk (Ext.alloc _ _) ⟨_, _, agg_eq (hE.out false (by rw [hg.out, Nat.div_one]; simp)), by rw [hF.out, hg.out, Nat.div_one]; exact HA.out.ext (Ext.alloc _ _), by rw [hG.out, hg.out, Nat.div_one]; exact HB.out.ext (Ext.alloc _ _)⟩)
    · by_cases hn : 0 < n
      · have eN : 0 < (bitsOf n).length := bits_len_pos.2 hn
        go_enter Tryz.func26, Tryz.ntmps26
        go_wp2_with fail
        refine bodyPost_ret (v := .agg #[.bool true, .slice a (bitsOf n).length ca, .slice b (bitsOf d).length cb]) (by simp [results, Tryz.results26, go_sem]) rfl ?_
        exact hR.out _ _ (Gives.mk (Ext.alloc _ _) ⟨_, _, agg_eq (hE.out true (by rw [hg.out, Nat.div_one]; simp [hn])), by rw [hF.out, hg.out, Nat.div_one]; exact HA.out.ext (Ext.alloc _ _), by rw [hG.out, hg.out, Nat.div_one]; exact HB.out.ext (Ext.alloc _ _)⟩)
      · have eN : (bitsOf n).length ≤ 0 := by have := bits_len_pos (x := n); omega
        go_enter Tryz.func26, Tryz.ntmps26
        go_wp2_with fail
        refine bodyPost_ret (v := .agg #[.bool false, .slice a (bitsOf n).length ca, .slice b (bitsOf d).length cb]) (by simp [results, Tryz.results26, go_sem, List.length_eq_zero_iff.1 (Nat.le_zero.1 eN)]) rfl ?_
        exact hR.out _ _ (Gives.mk (Ext.alloc _ _) ⟨_, _, agg_eq (hE.out false (by rw [hg.out, Nat.div_one]; simp [hn])), by rw [hF.out, hg.out, Nat.div_one]; exact HA.out.ext (Ext.alloc _ _), by rw [hG.out, hg.out, Nat.div_one]; exact HB.out.ext (Ext.alloc _ _)⟩)
  · have hl : (((bitsOf d).length : Int) == 1) = false := beqF (by have := bits_one d; omega)
    clear hd
    obtain ⟨w1, hw1, b1, c1, z1⟩ := boxR w (.bool false) (.slice none 0 0) (.slice none 0 0) 29
    have C1 := Lib.hid c1
    have HW := Lib.hid hw1
    clear c1 hw1
    have hg0 := Lib.hid (Nat.gcd_pos_of_pos_right n (Nat.pos_of_ne_zero H0.out))
    have hgl := Lib.hid (blen_mono (Nat.gcd_le_right n (Nat.pos_of_ne_zero H0.out)))
    go_enter Tryz.func26, Tryz.ntmps26
    go_wp2_with fail
    rw [← HW.out]
    clear HW
    go_wp2_with fail
    refine (r3Gcd_any (HA.out.rd.ext b1) (HB.out.rd.ext b1) (by omega) (by omega)).mono ?_
    rintro e w4 ⟨v4, rfl, b4, o4⟩
    have O4 := Lib.hid o4
    clear o4
    go_wp2_with fail
    refine (r3DivMod_any (HA.out.rd.ext (Ext.trans b1 b4)) O4.out (by have := hg0.out; omega) (by omega) (by have := hgl.out; omega)).mono ?_
    rintro e w5 ⟨_, rfl, b5, v5, r5, rfl, o5, _⟩
    rw [bval_bitsOf] at o5
    have O5 := Lib.hid o5
    clear o5
    go_wp2_with fail
    refine (r3DivMod_any (HB.out.rd.ext (Ext.trans b1 (Ext.trans b4 b5))) (O4.out.ext b5) (by have := hg0.out; omega) (by omega) (by have := hgl.out; omega)).mono ?_
    rintro e w6 ⟨_, rfl, b6, v6, r6, rfl, o6, _⟩
    rw [bval_bitsOf] at o6
    have O6 := Lib.hid o6
    clear o6
    obtain ⟨a5, c5, rfl, -, -, -, -⟩ := O5.out.rd.shape
    obtain ⟨a6, c6, rfl, -, -, -, -⟩ := O6.out.rd.shape
    have hz := Lib.hid b4.size
    obtain ⟨_, _, _, j0, j1, j2, g0, g1, g2⟩ := (C1.out.ext (Ext.trans b4 (Ext.trans b5 b6))).cells
    cases s
    · skip
      go_wp2_with fail
      refine bodyPost_ret (v := .agg #[.bool false, .slice a5 (bitsOf (n / Nat.gcd n d)).length c5, .slice a6 (bitsOf (d / Nat.gcd n d)).length c6]) (by simp [results, Tryz.results26, go_sem, j0, j1, j2]) rfl ?_
      exact hR.out _ _ (Gives.mk (put3_below (Ext.trans b1 (Ext.trans b4 (Ext.trans b5 b6))) (Nat.le_refl _) _ _ _) ⟨_, _, agg_eq (hE.out false (by simp)), by rw [hF.out]; exact ((O5.out.ext b6).put (by have := hz.out; omega) _ _ _).mono (by have := hz.out; omega), by rw [hG.out]; exact (O6.out.put (by have := hz.out; have := b5.size; omega) _ _ _).mono (by have := hz.out; have := b5.size; omega)⟩)
    · by_cases hn : 0 < n / Nat.gcd n d
      · have eN : 0 < (bitsOf (n / Nat.gcd n d)).length := bits_len_pos.2 hn
        go_wp2_with fail
        refine bodyPost_ret (v := .agg #[.bool true, .slice a5 (bitsOf (n / Nat.gcd n d)).length c5, .slice a6 (bitsOf (d / Nat.gcd n d)).length c6]) (by simp [results, Tryz.results26, go_sem, j0, j1, j2]) rfl ?_
        exact hR.out _ _ (Gives.mk (put3_below (Ext.trans b1 (Ext.trans b4 (Ext.trans b5 b6))) (Nat.le_refl _) _ _ _) ⟨_, _, agg_eq (hE.out true (by simp [hn])), by rw [hF.out]; exact ((O5.out.ext b6).put (by have := hz.out; omega) _ _ _).mono (by have := hz.out; omega), by rw [hG.out]; exact (O6.out.put (by have := hz.out; have := b5.size; omega) _ _ _).mono (by have := hz.out; have := b5.size; omega)⟩)
      · have eN : (bitsOf (n / Nat.gcd n d)).length ≤ 0 := by have := bits_len_pos (x := n / Nat.gcd n d); omega
        go_wp2_with fail
        refine bodyPost_ret (v := .agg #[.bool false, .slice a5 (bitsOf (n / Nat.gcd n d)).length c5, .slice a6 (bitsOf (d / Nat.gcd n d)).length c6]) (by simp [results, Tryz.results26, go_sem, j0, j1, j2, List.length_eq_zero_iff.1 (Nat.le_zero.1 eN)]) rfl ?_
        exact hR.out _ _ (Gives.mk (put3_below (Ext.trans b1 (Ext.trans b4 (Ext.trans b5 b6))) (Nat.le_refl _) _ _ _) ⟨_, _, agg_eq (hE.out false (by simp [hn])), by rw [hF.out]; exact ((O5.out.ext b6).put (by have := hz.out; omega) _ _ _).mono (by have := hz.out; omega), by rw [hG.out]; exact (O6.out.put (by have := hz.out; have := b5.size; omega) _ _ _).mono (by have := hz.out; have := b5.size; omega)⟩)
end Go.Proofs.YtgajpmcjjefghaaGreatDoor
