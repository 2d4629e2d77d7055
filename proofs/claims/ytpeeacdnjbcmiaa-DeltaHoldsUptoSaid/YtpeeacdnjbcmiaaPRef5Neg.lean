/- attestref05.Neg -/
import Derived.Test.YtpeeacdnjbcmiaaPRef5Low
import Derived.Deep.RegionHeld3
namespace Go.Proofs.Ytpeeacdnjbcmiaa
open Go.RowKit Go.Att

set_option maxHeartbeats 2000000 in
set_option linter.unusedSimpArgs false in
theorem r5neg_any {w : World} {v : Value} {q : Rat} (hq : RdP w v q) :
    Calls Try.prog 22 #[v] w (Gives w fun v' w' => RdP w' v' (-q)) := by
  refine via fun R hR => ?_
  have hs := neg_sign q
  have ha : (-q).num.natAbs = q.num.natAbs := by rw [Rat.neg_num, Int.natAbs_neg]
  have hb : (-q).den = q.den := rfl
  generalize -q = r at *
  obtain ⟨n, d, rfl, hn, hd⟩ := hq
  have HN := Lib.hid hn
  have HD := Lib.hid hd
  have HS := Lib.hid hs
  have HA := Lib.hid ha
  have HB := Lib.hid hb
  obtain ⟨a, c, rfl, -, -, -, -⟩ := HN.out.shape
  obtain ⟨a', c', rfl, -, -, -, -⟩ := HD.out.shape
  have hp := bits_len_pos (x := q.num.natAbs)
  clear hn hd hs ha hb
  cases hsg : decide (q.num < 0)
  · by_cases h0 : 0 < q.num.natAbs
    · have eN : 0 < (bitsOf q.num.natAbs).length := hp.2 h0
      have HT : Hid (true = decide (r.num < 0)) := by show _ = _; rw [← HS.out, hsg]; simp [h0]
      clear HS hsg
      obtain ⟨w1, hw1, b1, c1, _, c3, z1⟩ := box1R w (.bool false) (.slice a (bitsOf q.num.natAbs).length c) (.slice a' (bitsOf q.den).length c') (.bool false) (.slice none 0 0) (.slice none 0 0) 33 33
      have C1 := Lib.hid c1
      have C3 := Lib.hid c3
      have HW := Lib.hid hw1
      clear c1 c3 hw1
      go_enter Try.func22, Try.ntmps22
      go_wp2_with fail
      rw [← HW.out]
      clear HW
      have b2 := drew_ext w1
      have XE := b2
      go_region_held3 (fun w' => w'.cell? ⟨w.heap.size, 0, none⟩ = some (.bool false) ∧ w'.cell? ⟨w.heap.size, 1, none⟩ = some (.slice a (bitsOf q.num.natAbs).length c) ∧ w'.cell? ⟨w.heap.size, 2, none⟩ = some (.slice a' (bitsOf q.den).length c')) (first | exact C1.out.ext XE | exact (C1.out.ext XE).put (by omega) _ _ _)
        (first
         | (go_at_call 91; refine (low_same (HD.out.ext (Ext.trans b1 b2)) q.den_nz).mono ?_; rintro e w3 ⟨_, rfl, b3, rfl⟩; (first | have XE := Ext.trans XE b3 | have XE := Ext.trans (Ext.trans XE (Ext.alloc _ _)) b3); obtain ⟨_, _, _, j0, j1, j2, g0, g1, g2⟩ := (C3.out.ext XE).cells))
      go_wp2_with fail
      refine bodyPost_ret (v := .agg #[.bool true, .slice a (bitsOf q.num.natAbs).length c, .slice a' (bitsOf q.den).length c']) (by simp [results, Try.results22, go_sem, j0, j1, j2]) rfl ?_
      have xx := put3_below (Ext.trans b1 (Ext.trans b2 b3)) (Nat.le_succ w.heap.size) (.bool true) (.slice a (bitsOf q.num.natAbs).length c) (.slice a' (bitsOf q.den).length c')
      exact hR.out _ _ (Gives.mk xx ⟨_, _, agg_eq HT.out, by rw [HA.out]; exact HN.out.ext xx, by rw [HB.out]; exact HD.out.ext xx⟩)
    · have eN : (bitsOf q.num.natAbs).length ≤ 0 := by omega
      have HT : Hid (false = decide (r.num < 0)) := by show _ = _; rw [← HS.out, hsg]; simp [h0]
      clear HS hsg
      obtain ⟨w1, hw1, b1, c1, _, c3, z1⟩ := box1R w (.bool false) (.slice a (bitsOf q.num.natAbs).length c) (.slice a' (bitsOf q.den).length c') (.bool false) (.slice none 0 0) (.slice none 0 0) 33 33
      have C1 := Lib.hid c1
      have C3 := Lib.hid c3
      have HW := Lib.hid hw1
      clear c1 c3 hw1
      go_enter Try.func22, Try.ntmps22
      go_wp2_with fail
      rw [← HW.out]
      clear HW
      have b2 := drew_ext w1
      have XE := b2
      go_region_held3 (fun w' => w'.cell? ⟨w.heap.size, 0, none⟩ = some (.bool false) ∧ w'.cell? ⟨w.heap.size, 1, none⟩ = some (.slice a (bitsOf q.num.natAbs).length c) ∧ w'.cell? ⟨w.heap.size, 2, none⟩ = some (.slice a' (bitsOf q.den).length c')) (first | exact C1.out.ext XE | exact (C1.out.ext XE).put (by omega) _ _ _)
        (first
         | (go_at_call 91; refine (low_same (HD.out.ext (Ext.trans b1 b2)) q.den_nz).mono ?_; rintro e w3 ⟨_, rfl, b3, rfl⟩; (first | have XE := Ext.trans XE b3 | have XE := Ext.trans (Ext.trans XE (Ext.alloc _ _)) b3); obtain ⟨_, _, _, j0, j1, j2, g0, g1, g2⟩ := (C3.out.ext XE).cells))
      go_wp2_with fail
      refine bodyPost_ret (v := .agg #[.bool false, .slice a (bitsOf q.num.natAbs).length c, .slice a' (bitsOf q.den).length c']) (by simp [results, Try.results22, go_sem, j0, j1, j2, List.length_eq_zero_iff.1 (Nat.le_zero.1 eN)]) rfl ?_
      have xx := put3_below (Ext.trans b1 (Ext.trans b2 b3)) (Nat.le_succ w.heap.size) (.bool false) (.slice a (bitsOf q.num.natAbs).length c) (.slice a' (bitsOf q.den).length c')
      exact hR.out _ _ (Gives.mk xx ⟨_, _, agg_eq HT.out, by rw [HA.out]; exact HN.out.ext xx, by rw [HB.out]; exact HD.out.ext xx⟩)
  · have HT : Hid (false = decide (r.num < 0)) := by show _ = _; rw [← HS.out, hsg]; simp
    clear HS hsg
    obtain ⟨w1, hw1, b1, c1, _, c3, z1⟩ := box1R w (.bool true) (.slice a (bitsOf q.num.natAbs).length c) (.slice a' (bitsOf q.den).length c') (.bool false) (.slice none 0 0) (.slice none 0 0) 33 33
    have C1 := Lib.hid c1
    have C3 := Lib.hid c3
    have HW := Lib.hid hw1
    clear c1 c3 hw1
    go_enter Try.func22, Try.ntmps22
    go_wp2_with fail
    rw [← HW.out]
    clear HW
    have b2 := drew_ext w1
    have XE := b2
    refine wp_region_noPanic ?_
    refine wp_region_held_drew (S := fun w' => w'.cell? ⟨w.heap.size, 0, none⟩ = some (.bool true) ∧ w'.cell? ⟨w.heap.size, 1, none⟩ = some (.slice a (bitsOf q.num.natAbs).length c) ∧ w'.cell? ⟨w.heap.size, 2, none⟩ = some (.slice a' (bitsOf q.den).length c')) (by kernel_rfl) (C1.out.ext XE) (fun hHeld => ?_)
    refine wpAnyH_take (i := 0) (v := ?_) rfl (by kernel_rfl) (by kernel_rfl) (by kernel_rfl) (fun _ _ _ h => h) (Or.inl ⟨by rfl, fun w0 hSw => ?_⟩) hHeld ?_
    rotate_left
    · (try dsimp only at hSw)
      go_simp
      try with_reducible rfl
    simp only [Act.put, List.getElem_toArray, List.getElem_cons_succ, List.getElem_cons_zero, List.setIfInBounds_toArray, List.set_cons_zero, List.set_cons_succ]
    refine wpAnyH_take (i := 1) (v := ?_) rfl (by kernel_rfl) (by kernel_rfl) (by kernel_rfl) (fun _ _ _ h => h) (Or.inl ⟨by rfl, fun w0 hSw => ?_⟩) hHeld ?_
    rotate_left
    · (try dsimp only at hSw)
      go_simp
      try with_reducible rfl
    simp only [Act.put, List.getElem_toArray, List.getElem_cons_succ, List.getElem_cons_zero, List.setIfInBounds_toArray, List.set_cons_zero, List.set_cons_succ]
    refine wpAnyH_take (i := 2) (v := ?_) rfl (by kernel_rfl) (by kernel_rfl) (by kernel_rfl) (fun _ _ _ h => h) (Or.inl ⟨by rfl, fun w0 hSw => ?_⟩) hHeld ?_
    rotate_left
    · (try dsimp only at hSw)
      go_simp
      try with_reducible rfl
    simp only [Act.put, List.getElem_toArray, List.getElem_cons_succ, List.getElem_cons_zero, List.setIfInBounds_toArray, List.set_cons_zero, List.set_cons_succ]
    refine wpAnyH_take (i := 3) (v := ?_) rfl (by kernel_rfl) (by kernel_rfl) (by kernel_rfl) (fun _ _ _ h => h) (Or.inl ⟨by rfl, fun w0 hSw => ?_⟩) hHeld ?_
    rotate_left
    · (try dsimp only at hSw)
      go_simp
      try with_reducible rfl
    simp only [Act.put, List.getElem_toArray, List.getElem_cons_succ, List.getElem_cons_zero, List.setIfInBounds_toArray, List.set_cons_zero, List.set_cons_succ]
    refine wpAnyH_take (i := 4) rfl (by kernel_rfl) (by kernel_rfl) (by kernel_rfl) (fun _ _ _ h => h) (Or.inr ⟨by rfl, rfl⟩) hHeld ?_
    simp only [Act.put, List.getElem_toArray, List.getElem_cons_succ, List.getElem_cons_zero, List.setIfInBounds_toArray, List.set_cons_zero, List.set_cons_succ]
    refine wpAnyH_take (i := 5) rfl (by kernel_rfl) (by kernel_rfl) (by kernel_rfl) (fun _ _ _ h => h) (Or.inr ⟨by rfl, rfl⟩) hHeld ?_
    simp only [Act.put, List.getElem_toArray, List.getElem_cons_succ, List.getElem_cons_zero, List.setIfInBounds_toArray, List.set_cons_zero, List.set_cons_succ]
    refine wpAnyH_take (i := 6) rfl (by kernel_rfl) (by kernel_rfl) (by kernel_rfl) (fun _ _ _ h => h) (Or.inr ⟨by rfl, rfl⟩) hHeld ?_
    simp only [Act.put, List.getElem_toArray, List.getElem_cons_succ, List.getElem_cons_zero, List.setIfInBounds_toArray, List.set_cons_zero, List.set_cons_succ]
    refine wpAnyH_take (i := 7) rfl (by kernel_rfl) (by kernel_rfl) (by kernel_rfl) (fun _ _ _ h => h) (Or.inr ⟨by rfl, rfl⟩) hHeld ?_
    simp only [Act.put, List.getElem_toArray, List.getElem_cons_succ, List.getElem_cons_zero, List.setIfInBounds_toArray, List.set_cons_zero, List.set_cons_succ]
    refine wpAnyH_take (i := 8) (v := ?_) rfl (by kernel_rfl) (by kernel_rfl) (by kernel_rfl) (fun _ _ _ h => h) (Or.inl ⟨by rfl, fun w0 hSw => ?_⟩) hHeld ?_
    rotate_left
    · (try dsimp only at hSw)
      go_simp
      try with_reducible rfl
    simp only [Act.put, List.getElem_toArray, List.getElem_cons_succ, List.getElem_cons_zero, List.setIfInBounds_toArray, List.set_cons_zero, List.set_cons_succ]
    refine wpAnyH_take (i := 9) (v := ?_) rfl (by kernel_rfl) (by kernel_rfl) (by kernel_rfl) (fun _ _ _ h => h) (Or.inl ⟨by rfl, fun w0 hSw => ?_⟩) hHeld ?_
    rotate_left
    · (try dsimp only at hSw)
      go_simp
      try with_reducible rfl
    simp only [Act.put, List.getElem_toArray, List.getElem_cons_succ, List.getElem_cons_zero, List.setIfInBounds_toArray, List.set_cons_zero, List.set_cons_succ]
    refine wpAnyH_take (i := 10) (v := ?_) rfl (by kernel_rfl) (by kernel_rfl) (by kernel_rfl) (fun _ _ _ h => h) (Or.inl ⟨by rfl, fun w0 hSw => ?_⟩) hHeld ?_
    rotate_left
    · (try dsimp only at hSw)
      go_simp
      try with_reducible rfl
    simp only [Act.put, List.getElem_toArray, List.getElem_cons_succ, List.getElem_cons_zero, List.setIfInBounds_toArray, List.set_cons_zero, List.set_cons_succ]
    refine wpAnyH_take (i := 11) (v := ?_) rfl (by kernel_rfl) (by kernel_rfl) (by kernel_rfl) (fun _ _ _ h => h) (Or.inl ⟨by rfl, fun w0 hSw => ?_⟩) hHeld ?_
    rotate_left
    · (try dsimp only at hSw)
      go_simp
      try with_reducible rfl
    simp only [Act.put, List.getElem_toArray, List.getElem_cons_succ, List.getElem_cons_zero, List.setIfInBounds_toArray, List.set_cons_zero, List.set_cons_succ]
    refine wpAnyH_ready (rs := [12]) (by kernel_rfl) (by simp) ?_
    refine AllReadyH.cons (o := _) rfl (fun K hK => ?_) AllReadyH.nil
    go_simp
    go_at_call 91; refine (low_same (HD.out.ext (Ext.trans b1 b2)) q.den_nz).mono ?_; rintro e w3 ⟨_, rfl, b3, rfl⟩; (first | have XE := Ext.trans XE b3 | have XE := Ext.trans (Ext.trans XE (Ext.alloc _ _)) b3); obtain ⟨_, _, _, j0, j1, j2, g0, g1, g2⟩ := (C3.out.ext XE).cells
    go_wp2_with fail
    refine hK.out _ _ (C1.out.ext XE) (fun hHeld => ?_)
    clear hK K
    try simp only [Act.put, List.getElem_toArray, List.getElem_cons_succ, List.getElem_cons_zero, List.setIfInBounds_toArray, List.set_cons_zero, List.set_cons_succ]
    refine wpAnyH_take (i := 13) (v := ?_) rfl (by kernel_rfl) (by kernel_rfl) (by kernel_rfl) (fun _ _ _ h => h) (Or.inl ⟨by rfl, fun w0 hSw => ?_⟩) hHeld ?_
    rotate_left
    · (try dsimp only at hSw)
      go_simp
      try with_reducible rfl
    simp only [Act.put, List.getElem_toArray, List.getElem_cons_succ, List.getElem_cons_zero, List.setIfInBounds_toArray, List.set_cons_zero, List.set_cons_succ]
    refine wpAnyH_ready (rs := [14]) (by kernel_rfl) (by simp) ?_
    refine AllReadyH.cons (o := _) rfl (fun K hK => ?_) AllReadyH.nil
    go_simp
    refine hK.out _ _ ((C1.out.ext XE).put (by omega) _ _ _) (fun hHeld => ?_)
    clear hK K
    try simp only [Act.put, List.getElem_toArray, List.getElem_cons_succ, List.getElem_cons_zero, List.setIfInBounds_toArray, List.set_cons_zero, List.set_cons_succ]
    refine wpAnyH_done (by kernel_rfl) ?_ _
    refine NoPanic.normal ?_
    go_wp2_with fail
    refine bodyPost_ret (v := .agg #[.bool false, .slice a (bitsOf q.num.natAbs).length c, .slice a' (bitsOf q.den).length c']) (by simp [results, Try.results22, go_sem, j0, j1, j2]) rfl ?_
    have xx := put3_below (Ext.trans b1 (Ext.trans b2 b3)) (Nat.le_succ w.heap.size) (.bool false) (.slice a (bitsOf q.num.natAbs).length c) (.slice a' (bitsOf q.den).length c')
    exact hR.out _ _ (Gives.mk xx ⟨_, _, agg_eq HT.out, by rw [HA.out]; exact HN.out.ext xx, by rw [HB.out]; exact HD.out.ext xx⟩)
end Go.Proofs.Ytpeeacdnjbcmiaa
