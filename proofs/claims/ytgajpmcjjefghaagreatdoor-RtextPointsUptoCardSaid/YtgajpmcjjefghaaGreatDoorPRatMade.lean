/- rat.made -/
import Derived.Test.YtgajpmcjjefghaaGreatDoorRatPlain
import Derived.Test.YtgajpmcjjefghaaGreatDoorPRatBelow
import Derived.Test.YtgajpmcjjefghaaGreatDoorNatAll
import Derived.Test.YtgajpmcjjefghaaGreatDoorLimbAll
import Derived.Deep.RegionHeld3
import Derived.Deep.DeepCutAuto
namespace Go.Proofs.YtgajpmcjjefghaaGreatDoor
open Go.RowKit Go.Att

theorem made_any {w : World} {s : Bool} {va vb : Value} {xa xb : List Nat} (ha : RdL w va xa) (hb : RdL w vb xb) (hna : xa.length ≤ 1099511627) (hnb : xb.length ≤ 1099511627) (h0 : nv xb ≠ 0) :
    Calls Tryz.prog 45 #[.bool s, va, vb] w (Gives w fun v' w' => OwnQ 57 w.heap.size w' v' (mkQ s (nv xa) (nv xb))) := by
  refine via fun R hR => ?_
  have HA := Lib.hid ha
  have HB := Lib.hid hb
  have H0 := Lib.hid h0
  clear ha hb h0
  have b1 := Ext.alloc w (.cells #[.bool false, .slice none 0 0, .slice none 0 0] 26)
  have C1 := Lib.hid (Room3.new w (.bool false) (.slice none 0 0) (.slice none 0 0) 26)
  have z1 : (w.alloc (.cells #[.bool false, .slice none 0 0, .slice none 0 0] 26)).heap.size = w.heap.size + 1 := by simp
  go_enter Tryz.func45, Tryz.ntmps45
  go_upto_region 1 with (fail)
  generalize w.alloc (.cells #[.bool false, .slice none 0 0, .slice none 0 0] 26) = w1 at *
  go_wp2_with fail
  refine (gcd_any (HA.out.ext b1) (HB.out.ext b1) (by omega) (by omega)).mono ?_
  rintro e w2 ⟨v2, rfl, b2, o2⟩
  have O2 := Lib.hid o2
  clear o2
  go_wp2_with fail
  refine (one_any).mono ?_
  rintro e w3 ⟨v3, rfl, b3, o3⟩
  have O3 := Lib.hid o3
  clear o3
  go_wp2_with fail
  refine (cmp_any (O2.out.rd.ext b3) O3.out.rd).mono ?_
  rintro e w4 ⟨_, rfl, b4, rfl⟩
  rw [nv_limbs, show nv [1] = 1 from val_one _ _]
  have hg0 := Lib.hid (Nat.gcd_pos_of_pos_right (nv xa) (Nat.pos_of_ne_zero H0.out))
  have hgl : (limbs (Nat.gcd (nv xa) (nv xb))).length ≤ xb.length := Nat.le_trans (limbs_mono (Nat.gcd_le_right _ (Nat.pos_of_ne_zero H0.out))) (limbs_len_le HB.out.2)
  go_upto_if 15 with (fail)
  go_cut [1, 2] (fun s1 s2 wx => Ext w4 wx ∧ Hid (∃ ya yb, RdL wx s1 ya ∧ RdL wx s2 yb ∧ nv ya = nv xa / Nat.gcd (nv xa) (nv xb) ∧ nv yb = nv xb / Nat.gcd (nv xa) (nv xb) ∧ ya.length ≤ 1099511627 ∧ yb.length ≤ 1099511627))
  case first =>
    by_cases hg : Nat.gcd (nv xa) (nv xb) = 1
    · rw [hg, cmpN_eq]
      go_wp2_with fail
      go_meet
      exact ⟨Ext.refl _, xa, xb, HA.out.ext (Ext.trans b1 (Ext.trans b2 (Ext.trans b3 b4))), HB.out.ext (Ext.trans b1 (Ext.trans b2 (Ext.trans b3 b4))), by rw [hg, Nat.div_one], by rw [hg, Nat.div_one], hna, hnb⟩
    · rw [cmpN_gt (by have := hg0.out; omega)]
      clear hg
      go_wp2_with fail
      refine (divmod_any (HA.out.ext (Ext.trans b1 (Ext.trans b2 (Ext.trans b3 b4)))) (O2.out.rd.ext (Ext.trans b3 b4)) (by omega) (by omega) (by rw [nv_limbs]; have := hg0.out; omega)).mono ?_
      rintro e w5 ⟨_, rfl, b5, v5, r5, rfl, o5, _⟩
      rw [nv_limbs] at o5
      have O5 := Lib.hid o5
      clear o5
      go_wp2_with fail
      refine (divmod_any (HB.out.ext (Ext.trans b1 (Ext.trans b2 (Ext.trans b3 (Ext.trans b4 b5))))) (O2.out.rd.ext (Ext.trans b3 (Ext.trans b4 b5))) (by omega) (by omega) (by rw [nv_limbs]; have := hg0.out; omega)).mono ?_
      rintro e w6 ⟨_, rfl, b6, v6, r6, rfl, o6, _⟩
      rw [nv_limbs] at o6
      have O6 := Lib.hid o6
      clear o6
      go_wp2_with fail
      go_meet
      exact ⟨Ext.trans b5 b6, _, _, O5.out.rd.ext b6, O6.out.rd, nv_limbs _, nv_limbs _, Nat.le_trans (limbs_mono (Nat.div_le_self _ _)) (Nat.le_trans (limbs_len_le HA.out.2) hna), Nat.le_trans (limbs_mono (Nat.div_le_self _ _)) (Nat.le_trans (limbs_len_le HB.out.2) hnb)⟩
  case rest =>
    obtain ⟨b5, hh⟩ := hcut
    obtain ⟨ya, yb, hya, hyb, hea, heb, hla, hlb⟩ := hh.out
    have HYA := Lib.hid hya
    have HYB := Lib.hid hyb
    have HEA := Lib.hid hea
    have HEB := Lib.hid heb
    clear hh hya hyb hea heb O2 O3
    go_wp2_with fail
    refine (norm_any HYA.out (by omega)).mono ?_
    rintro e w6 ⟨v6, rfl, b6, o6⟩
    have O6 := Lib.hid o6
    clear o6
    go_wp2_with fail
    refine (norm_any (HYB.out.ext b6) (by omega)).mono ?_
    rintro e w7 ⟨v7, rfl, b7, o7⟩
    have O7 := Lib.hid o7
    clear o7
    rw [HEA.out] at O6
    rw [HEB.out] at O7
    have hs5 := Lib.hid (Below.size (Ext.trans b2 (Ext.trans b3 (Ext.trans b4 b5))))
    have hs7b := Lib.hid (Below.size (Ext.trans b2 (Ext.trans b3 (Ext.trans b4 (Ext.trans b5 (Ext.trans b6 b7))))))
    have C1' := Lib.hid (C1.out.ext (Ext.trans b2 (Ext.trans b3 (Ext.trans b4 (Ext.trans b5 (Ext.trans b6 b7))))))
    have hNp := limbs_len_pos (x := nv xa / Nat.gcd (nv xa) (nv xb))
    have HDV := Lib.hid (nv_limbs (nv xb / Nat.gcd (nv xa) (nv xb)))
    have hE : Hid (∀ t : Bool, t = (s && decide (0 < nv xa / Nat.gcd (nv xa) (nv xb))) → t = decide ((mkQ s (nv xa) (nv xb)).num < 0)) := fun t ht => by rw [ht, mkQ_neg _ _ _ H0.out]
    have hF : Hid (limbs (mkQ s (nv xa) (nv xb)).num.natAbs = limbs (nv xa / Nat.gcd (nv xa) (nv xb))) := by show _ = _; rw [mkQ_abs _ _ _ H0.out]
    have hG : (dens (mkQ s (nv xa) (nv xb)).den = if nv xb / Nat.gcd (nv xa) (nv xb) = 1 then [] else limbs (nv xb / Nat.gcd (nv xa) (nv xb))) := by rw [mkQ_den _ _ _ H0.out]; rfl
    generalize limbs (nv xa / Nat.gcd (nv xa) (nv xb)) = N at *
    generalize limbs (nv xb / Nat.gcd (nv xa) (nv xb)) = D at *
    generalize nv xb / Nat.gcd (nv xa) (nv xb) = d at *
    obtain ⟨a6, c6, rfl, _, h6, _, _⟩ := O6.out.rd.1.shape
    obtain ⟨a7, c7, rfl, _, h7, _, _⟩ := O7.out.rd.1.shape
    cases s
    · have eN := hNp
      have b8 := Ext.alloc w7 (.cells #[.bool false, .slice a6 N.length c6, .slice a7 D.length c7] 26)
      have C8 := Lib.hid (Box3.new w7 (.bool false) (.slice a6 N.length c6) (.slice a7 D.length c7) 26)
      have R8 := Lib.hid (Room3.new w7 (.bool false) (.slice a6 N.length c6) (.slice a7 D.length c7) 26)
      go_wp2_with fail
      generalize w7.alloc (.cells #[.bool false, .slice a6 N.length c6, .slice a7 D.length c7] 26) = w8 at *
      have b9 := drew_ext w8
      have XE := b9
      go_region_held3 (fun w' => w'.cell? ⟨w7.heap.size, 0, none⟩ = some (.bool false) ∧ w'.cell? ⟨w7.heap.size, 1, none⟩ = some (.slice a6 N.length c6) ∧ w'.cell? ⟨w7.heap.size, 2, none⟩ = some (.slice a7 D.length c7)) (exact C8.out.ext XE)
        (first
         | (go_at_call 54; refine (cmp_any (O7.out.rd.ext (Ext.trans b8 (Ext.trans b9 b10))) O10.out.rd).mono ?_; rintro e w11 ⟨_, rfl, b11, rfl⟩; (first | have XE := Ext.trans XE b11 | have XE := Ext.trans (Ext.trans XE (Ext.alloc _ _)) b11))
         | (go_at_call 68; refine (one_any).mono ?_; rintro e w10 ⟨v10, rfl, b10, o10⟩; have O10 := Lib.hid o10; clear o10; (first | have XE := Ext.trans XE b10 | have XE := Ext.trans (Ext.trans XE (Ext.alloc _ _)) b10)))
      rw [HDV.out, show nv [1] = 1 from val_one _ _]
      obtain ⟨k0, k1, k2⟩ := C8.out.ext (Ext.trans b9 (Ext.trans b10 b11))
      obtain ⟨_, _, _, _, _, _, f0, f1, f2⟩ := (R8.out.ext (Ext.trans b9 (Ext.trans b10 b11))).cells
      obtain ⟨_, _, _, j0, j1, j2, g0, g1, g2⟩ := (C1'.out.ext (Ext.trans b8 (Ext.trans b9 (Ext.trans b10 b11)))).cells
      have hne : w.heap.size ≠ w7.heap.size := by have := hs7b.out; omega
      have hne' : w7.heap.size ≠ w.heap.size := fun h => hne h.symm
      by_cases hD : d = 1
      · rw [if_pos hD] at hG
        rw [hD, cmpN_eq]
        clear hD
        go_wp2_with fail
        refine bodyPost_ret (v := .agg #[.bool false, .slice a6 N.length c6, .slice none 0 0]) (by simp [results, Tryz.results45, go_sem, j0, j1, j2]) rfl ?_
        have xf := Below.setCell (Ext.trans b1 (Ext.trans b2 (Ext.trans b3 (Ext.trans b4 (Ext.trans b5 (Ext.trans b6 (Ext.trans b7 (Ext.trans b8 (Ext.trans b9 (Ext.trans b10 b11)))))))))) (p := ⟨w7.heap.size, 2, none⟩) (by show w.heap.size ≤ w7.heap.size; have := hs7b.out; omega) (.slice none 0 0)
        have x6 : Ext w6 _ := Below.setCell (Ext.trans b7 (Ext.trans b8 (Ext.trans b9 (Ext.trans b10 b11)))) (p := ⟨w7.heap.size, 2, none⟩) b7.size (.slice none 0 0)
        exact hR.out _ _ (Gives.mk (put3_below xf (Nat.le_refl _) _ _ _) ⟨_, _, agg_eq (hE.out false (by simp)), by rw [hF.out]; exact ((O6.out.ext x6).put (by have := hs5.out; omega) _ _ _).mono (by have := hs5.out; omega), by rw [hG]; exact ⟨OwnI.nil _ _ _ _, Fit.nil _⟩⟩)
      · rw [if_neg hD] at hG
        have hc : (cmpN d 1 == 0) = false := by
          rcases cmpN_cases d 1 with ⟨_, h⟩ | ⟨h, _⟩ | ⟨_, h⟩
          · rw [h]; rfl
          · exact absurd h hD
          · rw [h]; rfl
        clear hD
        go_wp2_with fail
        refine bodyPost_ret (v := .agg #[.bool false, .slice a6 N.length c6, .slice a7 D.length c7]) (by simp [results, Tryz.results45, go_sem, j0, j1, j2]) rfl ?_
        exact hR.out _ _ (Gives.mk (put3_below (Ext.trans b1 (Ext.trans b2 (Ext.trans b3 (Ext.trans b4 (Ext.trans b5 (Ext.trans b6 (Ext.trans b7 (Ext.trans b8 (Ext.trans b9 (Ext.trans b10 b11)))))))))) (Nat.le_refl _) _ _ _) ⟨_, _, agg_eq (hE.out false (by simp)), by rw [hF.out]; exact ((O6.out.ext (Ext.trans b7 (Ext.trans b8 (Ext.trans b9 (Ext.trans b10 b11))))).put (by have := hs5.out; omega) _ _ _).mono (by have := hs5.out; omega), by rw [hG]; exact ((O7.out.ext (Ext.trans b8 (Ext.trans b9 (Ext.trans b10 b11)))).put (by have := hs5.out; have := b6.size; omega) _ _ _).mono (by have := hs5.out; have := b6.size; omega)⟩)
    · by_cases hN : 0 < nv xa / Nat.gcd (nv xa) (nv xb)
      · have eN : 0 < N.length := hNp.2 hN
        have b8 := Ext.alloc w7 (.cells #[.bool true, .slice a6 N.length c6, .slice a7 D.length c7] 26)
        have C8 := Lib.hid (Box3.new w7 (.bool true) (.slice a6 N.length c6) (.slice a7 D.length c7) 26)
        have R8 := Lib.hid (Room3.new w7 (.bool true) (.slice a6 N.length c6) (.slice a7 D.length c7) 26)
        go_wp2_with fail
        generalize w7.alloc (.cells #[.bool true, .slice a6 N.length c6, .slice a7 D.length c7] 26) = w8 at *
        have b9 := drew_ext w8
        have XE := b9
        go_region_held3 (fun w' => w'.cell? ⟨w7.heap.size, 0, none⟩ = some (.bool true) ∧ w'.cell? ⟨w7.heap.size, 1, none⟩ = some (.slice a6 N.length c6) ∧ w'.cell? ⟨w7.heap.size, 2, none⟩ = some (.slice a7 D.length c7)) (exact C8.out.ext XE)
          (first
           | (go_at_call 54; refine (cmp_any (O7.out.rd.ext (Ext.trans b8 (Ext.trans b9 b10))) O10.out.rd).mono ?_; rintro e w11 ⟨_, rfl, b11, rfl⟩; (first | have XE := Ext.trans XE b11 | have XE := Ext.trans (Ext.trans XE (Ext.alloc _ _)) b11))
           | (go_at_call 68; refine (one_any).mono ?_; rintro e w10 ⟨v10, rfl, b10, o10⟩; have O10 := Lib.hid o10; clear o10; (first | have XE := Ext.trans XE b10 | have XE := Ext.trans (Ext.trans XE (Ext.alloc _ _)) b10)))
        rw [HDV.out, show nv [1] = 1 from val_one _ _]
        obtain ⟨k0, k1, k2⟩ := C8.out.ext (Ext.trans b9 (Ext.trans b10 b11))
        obtain ⟨_, _, _, _, _, _, f0, f1, f2⟩ := (R8.out.ext (Ext.trans b9 (Ext.trans b10 b11))).cells
        obtain ⟨_, _, _, j0, j1, j2, g0, g1, g2⟩ := (C1'.out.ext (Ext.trans b8 (Ext.trans b9 (Ext.trans b10 b11)))).cells
        have hne : w.heap.size ≠ w7.heap.size := by have := hs7b.out; omega
        have hne' : w7.heap.size ≠ w.heap.size := fun h => hne h.symm
        by_cases hD : d = 1
        · rw [if_pos hD] at hG
          rw [hD, cmpN_eq]
          clear hD
          go_wp2_with fail
          refine bodyPost_ret (v := .agg #[.bool true, .slice a6 N.length c6, .slice none 0 0]) (by simp [results, Tryz.results45, go_sem, j0, j1, j2]) rfl ?_
          have xf := Below.setCell (Ext.trans b1 (Ext.trans b2 (Ext.trans b3 (Ext.trans b4 (Ext.trans b5 (Ext.trans b6 (Ext.trans b7 (Ext.trans b8 (Ext.trans b9 (Ext.trans b10 b11)))))))))) (p := ⟨w7.heap.size, 2, none⟩) (by show w.heap.size ≤ w7.heap.size; have := hs7b.out; omega) (.slice none 0 0)
          have x6 : Ext w6 _ := Below.setCell (Ext.trans b7 (Ext.trans b8 (Ext.trans b9 (Ext.trans b10 b11)))) (p := ⟨w7.heap.size, 2, none⟩) b7.size (.slice none 0 0)
          exact hR.out _ _ (Gives.mk (put3_below xf (Nat.le_refl _) _ _ _) ⟨_, _, agg_eq (hE.out true (by simp [hN])), by rw [hF.out]; exact ((O6.out.ext x6).put (by have := hs5.out; omega) _ _ _).mono (by have := hs5.out; omega), by rw [hG]; exact ⟨OwnI.nil _ _ _ _, Fit.nil _⟩⟩)
        · rw [if_neg hD] at hG
          have hc : (cmpN d 1 == 0) = false := by
            rcases cmpN_cases d 1 with ⟨_, h⟩ | ⟨h, _⟩ | ⟨_, h⟩
            · rw [h]; rfl
            · exact absurd h hD
            · rw [h]; rfl
          clear hD
          go_wp2_with fail
          refine bodyPost_ret (v := .agg #[.bool true, .slice a6 N.length c6, .slice a7 D.length c7]) (by simp [results, Tryz.results45, go_sem, j0, j1, j2]) rfl ?_
          exact hR.out _ _ (Gives.mk (put3_below (Ext.trans b1 (Ext.trans b2 (Ext.trans b3 (Ext.trans b4 (Ext.trans b5 (Ext.trans b6 (Ext.trans b7 (Ext.trans b8 (Ext.trans b9 (Ext.trans b10 b11)))))))))) (Nat.le_refl _) _ _ _) ⟨_, _, agg_eq (hE.out true (by simp [hN])), by rw [hF.out]; exact ((O6.out.ext (Ext.trans b7 (Ext.trans b8 (Ext.trans b9 (Ext.trans b10 b11))))).put (by have := hs5.out; omega) _ _ _).mono (by have := hs5.out; omega), by rw [hG]; exact ((O7.out.ext (Ext.trans b8 (Ext.trans b9 (Ext.trans b10 b11)))).put (by have := hs5.out; have := b6.size; omega) _ _ _).mono (by have := hs5.out; have := b6.size; omega)⟩)
      · have eN : N.length ≤ 0 := by omega
        have b8 := Ext.alloc w7 (.cells #[.bool false, .slice a6 N.length c6, .slice a7 D.length c7] 26)
        have C8 := Lib.hid (Box3.new w7 (.bool false) (.slice a6 N.length c6) (.slice a7 D.length c7) 26)
        have R8 := Lib.hid (Room3.new w7 (.bool false) (.slice a6 N.length c6) (.slice a7 D.length c7) 26)
        go_wp2_with fail
        generalize w7.alloc (.cells #[.bool false, .slice a6 N.length c6, .slice a7 D.length c7] 26) = w8 at *
        have b9 := drew_ext w8
        have XE := b9
        go_region_held3 (fun w' => w'.cell? ⟨w7.heap.size, 0, none⟩ = some (.bool false) ∧ w'.cell? ⟨w7.heap.size, 1, none⟩ = some (.slice a6 N.length c6) ∧ w'.cell? ⟨w7.heap.size, 2, none⟩ = some (.slice a7 D.length c7)) (exact C8.out.ext XE)
          (first
           | (go_at_call 54; refine (cmp_any (O7.out.rd.ext (Ext.trans b8 (Ext.trans b9 b10))) O10.out.rd).mono ?_; rintro e w11 ⟨_, rfl, b11, rfl⟩; (first | have XE := Ext.trans XE b11 | have XE := Ext.trans (Ext.trans XE (Ext.alloc _ _)) b11))
           | (go_at_call 68; refine (one_any).mono ?_; rintro e w10 ⟨v10, rfl, b10, o10⟩; have O10 := Lib.hid o10; clear o10; (first | have XE := Ext.trans XE b10 | have XE := Ext.trans (Ext.trans XE (Ext.alloc _ _)) b10)))
        rw [HDV.out, show nv [1] = 1 from val_one _ _]
        obtain ⟨k0, k1, k2⟩ := C8.out.ext (Ext.trans b9 (Ext.trans b10 b11))
        obtain ⟨_, _, _, _, _, _, f0, f1, f2⟩ := (R8.out.ext (Ext.trans b9 (Ext.trans b10 b11))).cells
        obtain ⟨_, _, _, j0, j1, j2, g0, g1, g2⟩ := (C1'.out.ext (Ext.trans b8 (Ext.trans b9 (Ext.trans b10 b11)))).cells
        have hne : w.heap.size ≠ w7.heap.size := by have := hs7b.out; omega
        have hne' : w7.heap.size ≠ w.heap.size := fun h => hne h.symm
        by_cases hD : d = 1
        · rw [if_pos hD] at hG
          rw [hD, cmpN_eq]
          clear hD
          go_wp2_with fail
          refine bodyPost_ret (v := .agg #[.bool false, .slice a6 N.length c6, .slice none 0 0]) (by simp [results, Tryz.results45, go_sem, j0, j1, j2]) rfl ?_
          have xf := Below.setCell (Ext.trans b1 (Ext.trans b2 (Ext.trans b3 (Ext.trans b4 (Ext.trans b5 (Ext.trans b6 (Ext.trans b7 (Ext.trans b8 (Ext.trans b9 (Ext.trans b10 b11)))))))))) (p := ⟨w7.heap.size, 2, none⟩) (by show w.heap.size ≤ w7.heap.size; have := hs7b.out; omega) (.slice none 0 0)
          have x6 : Ext w6 _ := Below.setCell (Ext.trans b7 (Ext.trans b8 (Ext.trans b9 (Ext.trans b10 b11)))) (p := ⟨w7.heap.size, 2, none⟩) b7.size (.slice none 0 0)
          exact hR.out _ _ (Gives.mk (put3_below xf (Nat.le_refl _) _ _ _) ⟨_, _, agg_eq (hE.out false (by simp [hN])), by rw [hF.out]; exact ((O6.out.ext x6).put (by have := hs5.out; omega) _ _ _).mono (by have := hs5.out; omega), by rw [hG]; exact ⟨OwnI.nil _ _ _ _, Fit.nil _⟩⟩)
        · rw [if_neg hD] at hG
          have hc : (cmpN d 1 == 0) = false := by
            rcases cmpN_cases d 1 with ⟨_, h⟩ | ⟨h, _⟩ | ⟨_, h⟩
            · rw [h]; rfl
            · exact absurd h hD
            · rw [h]; rfl
          clear hD
          go_wp2_with fail
          refine bodyPost_ret (v := .agg #[.bool false, .slice a6 N.length c6, .slice a7 D.length c7]) (by simp [results, Tryz.results45, go_sem, j0, j1, j2]) rfl ?_
          exact hR.out _ _ (Gives.mk (put3_below (Ext.trans b1 (Ext.trans b2 (Ext.trans b3 (Ext.trans b4 (Ext.trans b5 (Ext.trans b6 (Ext.trans b7 (Ext.trans b8 (Ext.trans b9 (Ext.trans b10 b11)))))))))) (Nat.le_refl _) _ _ _) ⟨_, _, agg_eq (hE.out false (by simp [hN])), by rw [hF.out]; exact ((O6.out.ext (Ext.trans b7 (Ext.trans b8 (Ext.trans b9 (Ext.trans b10 b11))))).put (by have := hs5.out; omega) _ _ _).mono (by have := hs5.out; omega), by rw [hG]; exact ((O7.out.ext (Ext.trans b8 (Ext.trans b9 (Ext.trans b10 b11)))).put (by have := hs5.out; have := b6.size; omega) _ _ _).mono (by have := hs5.out; have := b6.size; omega)⟩)

theorem made_to {w : World} {s : Bool} {va vb : Value} {xa xb : List Nat} {r : Rat} (ha : RdL w va xa) (hb : RdL w vb xb) (hna : xa.length ≤ 1099511627) (hnb : xb.length ≤ 1099511627) (h0 : nv xb ≠ 0) (hr : mkQ s (nv xa) (nv xb) = r) :
    Calls Tryz.prog 45 #[.bool s, va, vb] w (Gives w fun v' w' => OwnQ 57 w.heap.size w' v' r) := hr ▸ made_any ha hb hna hnb h0
end Go.Proofs.YtgajpmcjjefghaaGreatDoor
