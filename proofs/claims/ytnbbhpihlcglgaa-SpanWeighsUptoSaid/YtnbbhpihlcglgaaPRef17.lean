/- attestref17.top, Relu, Same -/
import Derived.Test.YtnbbhpihlcglgaaPTold17
import Derived.Test.YtnbbhpihlcglgaaBq
import Derived.Test.YtnbbhpihlcglgaaPSpan2
import Derived.Test.YtnbbhpihlcglgaaRef5All
namespace Go.Proofs.Ytnbbhpihlcglgaa
open Go.RowKit Go.Att

theorem top_val {w : World} {va vb : Value} {p q : Rat} (hp : RdP w va p) (hq : RdP w vb q) (sp : Sb 50000 p) (sq : Sb 50000 q) :
    Calls Try.prog 145 #[va, vb] w (Gives w fun v' _ => v' = if 0 ≤ (p - q).num.sign then va else vb) := by
  refine via fun R hR => ?_
  have HP := Lib.hid hp
  have HQ := Lib.hid hq
  have SP := Lib.hid sp
  have SQ := Lib.hid sq
  obtain ⟨n, d, rfl, hn, hd⟩ := hp
  obtain ⟨m, c, rfl, hm, hc⟩ := hq
  obtain ⟨an, cn, rfl, -, -, -, -⟩ := hn.shape
  obtain ⟨ad, cd, rfl, -, -, -, -⟩ := hd.shape
  obtain ⟨am, cm, rfl, -, -, -, -⟩ := hm.shape
  obtain ⟨ac, cc, rfl, -, -, -, -⟩ := hc.shape
  clear hn hd hm hc sp sq
  obtain ⟨w1, hw1, b1, c1, c2, c3, z1⟩ := box2R w (.bool (decide (p.num < 0))) (.slice an (bitsOf p.num.natAbs).length cn) (.slice ad (bitsOf p.den).length cd) (.bool (decide (q.num < 0))) (.slice am (bitsOf q.num.natAbs).length cm) (.slice ac (bitsOf q.den).length cc) (.bool false) (.slice none 0 0) (.slice none 0 0) 46 46 46
  have C1 := Lib.hid c1
  have C2 := Lib.hid c2
  have C3 := Lib.hid c3
  have HW := Lib.hid hw1
  obtain ⟨k0, k1, k2⟩ := c1
  obtain ⟨l0, l1, l2⟩ := c2
  clear c3 hw1
  go_enter Try.func145, Try.ntmps145
  go_upto_region 1 with (fail)
  rw [← HW.out]
  clear HW
  go_wp2_with fail
  clear k0 k1 k2 l0 l1 l2
  refine (r5cmp_any (HP.out.ext b1) (HQ.out.ext b1) SP.out SQ.out).mono ?_
  rintro e w2 ⟨_, rfl, b2, rfl⟩
  generalize (p - q).num.sign = t at *
  obtain ⟨_, _, _, j0, j1, j2, g0, g1, g2⟩ := (C3.out.ext b2).cells
  obtain ⟨k0, k1, k2⟩ := C1.out.ext b2
  obtain ⟨l0, l1, l2⟩ := C2.out.ext b2
  by_cases h : 0 ≤ t
  · rw [if_pos h] at hR
    have ht : decide (t < 0) = false := decide_eq_false (by omega)
    clear h
    go_wp2_with fail
    refine bodyPost_ret (v := .agg #[.bool (decide (p.num < 0)), .slice an (bitsOf p.num.natAbs).length cn, .slice ad (bitsOf p.den).length cd]) (by simp [results, Try.results145, go_sem, j0, j1, j2]) rfl ?_
    have xx := put3_below (Ext.trans b1 b2) (show w.heap.size ≤ w.heap.size + 1 + 1 by omega) (.bool (decide (p.num < 0))) (.slice an (bitsOf p.num.natAbs).length cn) (.slice ad (bitsOf p.den).length cd)
    exact hR.out _ _ (Gives.mk xx rfl)
  · rw [if_neg h] at hR
    have ht : decide (t < 0) = true := decide_eq_true (by omega)
    clear h
    go_wp2_with fail
    refine bodyPost_ret (v := .agg #[.bool (decide (q.num < 0)), .slice am (bitsOf q.num.natAbs).length cm, .slice ac (bitsOf q.den).length cc]) (by simp [results, Try.results145, go_sem, j0, j1, j2]) rfl ?_
    have xx := put3_below (Ext.trans b1 b2) (show w.heap.size ≤ w.heap.size + 1 + 1 by omega) (.bool (decide (q.num < 0))) (.slice am (bitsOf q.num.natAbs).length cm) (.slice ac (bitsOf q.den).length cc)
    exact hR.out _ _ (Gives.mk xx rfl)

set_option maxHeartbeats 2000000 in
set_option linter.unusedSimpArgs false in
theorem same17_yes {w : World} {va vb : Value} {l : List (Rat × Rat)} (ha : RdRow 6 RdEp w va l) (hb : RdRow 6 RdEp w vb l) (hs : ∀ p ∈ l, Sb 50000 p.1 ∧ Sb 50000 p.2) :
    Calls Try.prog 21 #[va, vb] w (Gives w fun v' _ => v' = .bool true) := by
  refine via fun R hR => ?_
  have HS := Lib.hid hs
  have HA := Lib.hid ha
  have HB := Lib.hid hb
  obtain ⟨a, c, rfl, hlc, hcm⟩ := ha.shape
  obtain ⟨a', c', rfl, hlc', hcm'⟩ := hb.shape
  unfold maxLen at hcm hcm'
  clear ha hb hs
  go_enter Try.func21, Try.ntmps21
  go_wp2_with fail
  go_loopw [13] (fun i wr => ∃ k : Nat, i = .int .i64 k ∧ k ≤ l.length ∧ Ext w wr) (fun i _ => l.length - (intOf i).toNat)
  case atStart => exact ⟨0, rfl, Nat.zero_le _, Ext.refl _⟩
  case round =>
    obtain ⟨k, rfl, hk, hx⟩ := hrel
    have hsz := hx.size
    by_cases hlt : k < l.length
    · obtain ⟨b, off, cs, rfl, hcl, hT, hc⟩ := HA.out.at (by decide) k hlt
      obtain ⟨b', off', cs', rfl, hcl', hT', hc'⟩ := HB.out.at (by decide) k hlt
      obtain ⟨x0, x1, x2, x3, x4, x5, rfl, hq1, hq2⟩ := cells_E hT
      obtain ⟨y0, y1, y2, y3, y4, y5, rfl, hr1, hr2⟩ := cells_E hT'
      obtain ⟨s1, s2⟩ := HS.out l[k] (List.getElem_mem hlt)
      generalize l[k].1 = p at *
      generalize l[k].2 = q at *
      have SP := Lib.hid s1
      have SQ := Lib.hid s2
      have HP := Lib.hid hq1
      have HQ := Lib.hid hq2
      have HP' := Lib.hid hr1
      have HQ' := Lib.hid hr2
      have KC : Hid (Bo wr b (off + k * 6) [x0, x1, x2, x3, x4, x5]) := Bo.ext (Bo.of hc) hx
      have KD : Hid (Bo wr b' (off' + k * 6) [y0, y1, y2, y3, y4, y5]) := Bo.ext (Bo.of hc') hx
      have hzp : Hid ((p - p).num.sign = 0) := by show _ = _; rw [Rat.sub_self]; rfl
      have hzq : Hid ((q - q).num.sign = 0) := by show _ = _; rw [Rat.sub_self]; rfl
      clear hT hc hq1 hq2 s1 s2 hT' hc' hr1 hr2
      obtain ⟨w1, hw1⟩ : ∃ w1, w1 = wr := ⟨_, rfl⟩
      subst hw1
      go_upto_region 6 with (fail)
      have b2 := drew_ext w1
      have XE := b2
      refine wp_region_noPanic ?_
      refine wp_region_held_drew (S := fun w' => (w'.cell? ⟨b, off + k * 6, none⟩ = some (x0) ∧ w'.cell? ⟨b, off + k * 6 + 1, none⟩ = some (x1) ∧ w'.cell? ⟨b, off + k * 6 + 2, none⟩ = some (x2) ∧ w'.cell? ⟨b, off + k * 6 + 3, none⟩ = some (x3) ∧ w'.cell? ⟨b, off + k * 6 + 4, none⟩ = some (x4) ∧ w'.cell? ⟨b, off + k * 6 + 5, none⟩ = some (x5)) ∧ (w'.cell? ⟨b', off' + k * 6, none⟩ = some (y0) ∧ w'.cell? ⟨b', off' + k * 6 + 1, none⟩ = some (y1) ∧ w'.cell? ⟨b', off' + k * 6 + 2, none⟩ = some (y2) ∧ w'.cell? ⟨b', off' + k * 6 + 3, none⟩ = some (y3) ∧ w'.cell? ⟨b', off' + k * 6 + 4, none⟩ = some (y4) ∧ w'.cell? ⟨b', off' + k * 6 + 5, none⟩ = some (y5))) (by kernel_rfl) (⟨(KC.out.ext XE).c6, (KD.out.ext XE).c6⟩) (fun hHeld => ?_)
      refine wpAnyH_take (i := 0) (v := ?_) rfl (by kernel_rfl) (by kernel_rfl) (by kernel_rfl) (fun _ _ _ h => h) (Or.inl ⟨by rfl, fun w0 hSw => ?_⟩) hHeld ?_
      rotate_left
      · (try dsimp only at hSw)
        go_simp
        try with_reducible rfl
      simp only [Act.put, List.getElem_toArray, List.getElem_cons_succ, List.getElem_cons_zero, List.setIfInBounds_toArray, List.set_cons_zero, List.set_cons_succ]
      refine wpAnyH_take (i := 1) (v := ?_) rfl (by kernel_rfl) (by kernel_rfl) (by kernel_rfl) (fun _ _ _ h => h) (Or.inl ⟨by rfl, fun w0 hSw => ?_⟩) hHeld ?_
      rotate_left
      · (try dsimp only at hSw)
        go_simp
        try with_reducible rfl
      simp only [Act.put, List.getElem_toArray, List.getElem_cons_succ, List.getElem_cons_zero, List.setIfInBounds_toArray, List.set_cons_zero, List.set_cons_succ]
      refine wpAnyH_take (i := 2) (v := ?_) rfl (by kernel_rfl) (by kernel_rfl) (by kernel_rfl) (fun _ _ _ h => h) (Or.inl ⟨by rfl, fun w0 hSw => ?_⟩) hHeld ?_
      rotate_left
      · (try dsimp only at hSw)
        go_simp
        try with_reducible rfl
      simp only [Act.put, List.getElem_toArray, List.getElem_cons_succ, List.getElem_cons_zero, List.setIfInBounds_toArray, List.set_cons_zero, List.set_cons_succ]
      refine wpAnyH_take (i := 3) (v := ?_) rfl (by kernel_rfl) (by kernel_rfl) (by kernel_rfl) (fun _ _ _ h => h) (Or.inl ⟨by rfl, fun w0 hSw => ?_⟩) hHeld ?_
      rotate_left
      · (try dsimp only at hSw)
        go_simp
        try with_reducible rfl
      simp only [Act.put, List.getElem_toArray, List.getElem_cons_succ, List.getElem_cons_zero, List.setIfInBounds_toArray, List.set_cons_zero, List.set_cons_succ]
      refine wpAnyH_take (i := 4) (v := ?_) rfl (by kernel_rfl) (by kernel_rfl) (by kernel_rfl) (fun _ _ _ h => h) (Or.inl ⟨by rfl, fun w0 hSw => ?_⟩) hHeld ?_
      rotate_left
      · (try dsimp only at hSw)
        go_simp
        try with_reducible rfl
      simp only [Act.put, List.getElem_toArray, List.getElem_cons_succ, List.getElem_cons_zero, List.setIfInBounds_toArray, List.set_cons_zero, List.set_cons_succ]
      refine wpAnyH_take (i := 5) (v := ?_) rfl (by kernel_rfl) (by kernel_rfl) (by kernel_rfl) (fun _ _ _ h => h) (Or.inl ⟨by rfl, fun w0 hSw => ?_⟩) hHeld ?_
      rotate_left
      · (try dsimp only at hSw)
        go_simp
        try with_reducible rfl
      simp only [Act.put, List.getElem_toArray, List.getElem_cons_succ, List.getElem_cons_zero, List.setIfInBounds_toArray, List.set_cons_zero, List.set_cons_succ]
      refine wpAnyH_take (i := 6) (v := ?_) rfl (by kernel_rfl) (by kernel_rfl) (by kernel_rfl) (fun _ _ _ h => h) (Or.inl ⟨by rfl, fun w0 hSw => ?_⟩) hHeld ?_
      rotate_left
      · (try dsimp only at hSw)
        go_simp
        try with_reducible rfl
      simp only [Act.put, List.getElem_toArray, List.getElem_cons_succ, List.getElem_cons_zero, List.setIfInBounds_toArray, List.set_cons_zero, List.set_cons_succ]
      refine wpAnyH_take (i := 7) (v := ?_) rfl (by kernel_rfl) (by kernel_rfl) (by kernel_rfl) (fun _ _ _ h => h) (Or.inl ⟨by rfl, fun w0 hSw => ?_⟩) hHeld ?_
      rotate_left
      · (try dsimp only at hSw)
        go_simp
        try with_reducible rfl
      simp only [Act.put, List.getElem_toArray, List.getElem_cons_succ, List.getElem_cons_zero, List.setIfInBounds_toArray, List.set_cons_zero, List.set_cons_succ]
      refine wpAnyH_take (i := 8) (v := ?_) rfl (by kernel_rfl) (by kernel_rfl) (by kernel_rfl) (fun _ _ _ h => h) (Or.inl ⟨by rfl, fun w0 hSw => ?_⟩) hHeld ?_
      rotate_left
      · (try dsimp only at hSw)
        go_simp
        try with_reducible rfl
      simp only [Act.put, List.getElem_toArray, List.getElem_cons_succ, List.getElem_cons_zero, List.setIfInBounds_toArray, List.set_cons_zero, List.set_cons_succ]
      refine wpAnyH_take (i := 9) (v := ?_) rfl (by kernel_rfl) (by kernel_rfl) (by kernel_rfl) (fun _ _ _ h => h) (Or.inl ⟨by rfl, fun w0 hSw => ?_⟩) hHeld ?_
      rotate_left
      · (try dsimp only at hSw)
        go_simp
        try with_reducible rfl
      simp only [Act.put, List.getElem_toArray, List.getElem_cons_succ, List.getElem_cons_zero, List.setIfInBounds_toArray, List.set_cons_zero, List.set_cons_succ]
      refine wpAnyH_ready (rs := [10]) (by kernel_rfl) (by simp) ?_
      refine AllReadyH.cons (o := _) rfl (fun K hK => ?_) AllReadyH.nil
      go_simp
      go_at_call 34; refine (hzp.out ▸ r5cmp_any (HP.out.ext (Ext.trans hx b2)) (HP'.out.ext (Ext.trans hx b2)) SP.out SP.out).mono ?_; rintro e w3 ⟨_, rfl, b3, rfl⟩; (first | have XE := Ext.trans XE b3 | have XE := Ext.trans (Ext.trans XE (Ext.alloc _ _)) b3)
      go_wp2_with fail
      refine hK.out _ _ (⟨(KC.out.ext XE).c6, (KD.out.ext XE).c6⟩) (fun hHeld => ?_)
      clear hK K
      try simp only [Act.put, List.getElem_toArray, List.getElem_cons_succ, List.getElem_cons_zero, List.setIfInBounds_toArray, List.set_cons_zero, List.set_cons_succ]
      refine wpAnyH_take (i := 11) (v := ?_) rfl (by kernel_rfl) (by kernel_rfl) (by kernel_rfl) (fun _ _ _ h => h) (Or.inl ⟨by rfl, fun w0 hSw => ?_⟩) hHeld ?_
      rotate_left
      · (try dsimp only at hSw)
        go_simp
        try with_reducible rfl
      simp only [Act.put, List.getElem_toArray, List.getElem_cons_succ, List.getElem_cons_zero, List.setIfInBounds_toArray, List.set_cons_zero, List.set_cons_succ]
      refine wpAnyH_take (i := 12) (v := ?_) rfl (by kernel_rfl) (by kernel_rfl) (by kernel_rfl) (fun _ _ _ h => h) (Or.inl ⟨by rfl, fun w0 hSw => ?_⟩) hHeld ?_
      rotate_left
      · (try dsimp only at hSw)
        go_simp
        try with_reducible rfl
      simp only [Act.put, List.getElem_toArray, List.getElem_cons_succ, List.getElem_cons_zero, List.setIfInBounds_toArray, List.set_cons_zero, List.set_cons_succ]
      refine wpAnyH_take (i := 13) (v := ?_) rfl (by kernel_rfl) (by kernel_rfl) (by kernel_rfl) (fun _ _ _ h => h) (Or.inl ⟨by rfl, fun w0 hSw => ?_⟩) hHeld ?_
      rotate_left
      · (try dsimp only at hSw)
        go_simp
        try with_reducible rfl
      simp only [Act.put, List.getElem_toArray, List.getElem_cons_succ, List.getElem_cons_zero, List.setIfInBounds_toArray, List.set_cons_zero, List.set_cons_succ]
      refine wpAnyH_take (i := 14) (v := ?_) rfl (by kernel_rfl) (by kernel_rfl) (by kernel_rfl) (fun _ _ _ h => h) (Or.inl ⟨by rfl, fun w0 hSw => ?_⟩) hHeld ?_
      rotate_left
      · (try dsimp only at hSw)
        go_simp
        try with_reducible rfl
      simp only [Act.put, List.getElem_toArray, List.getElem_cons_succ, List.getElem_cons_zero, List.setIfInBounds_toArray, List.set_cons_zero, List.set_cons_succ]
      refine wpAnyH_take (i := 15) (v := ?_) rfl (by kernel_rfl) (by kernel_rfl) (by kernel_rfl) (fun _ _ _ h => h) (Or.inl ⟨by rfl, fun w0 hSw => ?_⟩) hHeld ?_
      rotate_left
      · (try dsimp only at hSw)
        go_simp
        try with_reducible rfl
      simp only [Act.put, List.getElem_toArray, List.getElem_cons_succ, List.getElem_cons_zero, List.setIfInBounds_toArray, List.set_cons_zero, List.set_cons_succ]
      refine wpAnyH_take (i := 16) (v := ?_) rfl (by kernel_rfl) (by kernel_rfl) (by kernel_rfl) (fun _ _ _ h => h) (Or.inl ⟨by rfl, fun w0 hSw => ?_⟩) hHeld ?_
      rotate_left
      · (try dsimp only at hSw)
        go_simp
        try with_reducible rfl
      simp only [Act.put, List.getElem_toArray, List.getElem_cons_succ, List.getElem_cons_zero, List.setIfInBounds_toArray, List.set_cons_zero, List.set_cons_succ]
      refine wpAnyH_take (i := 17) (v := ?_) rfl (by kernel_rfl) (by kernel_rfl) (by kernel_rfl) (fun _ _ _ h => h) (Or.inl ⟨by rfl, fun w0 hSw => ?_⟩) hHeld ?_
      rotate_left
      · (try dsimp only at hSw)
        go_simp
        try with_reducible rfl
      simp only [Act.put, List.getElem_toArray, List.getElem_cons_succ, List.getElem_cons_zero, List.setIfInBounds_toArray, List.set_cons_zero, List.set_cons_succ]
      refine wpAnyH_take (i := 18) (v := ?_) rfl (by kernel_rfl) (by kernel_rfl) (by kernel_rfl) (fun _ _ _ h => h) (Or.inl ⟨by rfl, fun w0 hSw => ?_⟩) hHeld ?_
      rotate_left
      · (try dsimp only at hSw)
        go_simp
        try with_reducible rfl
      simp only [Act.put, List.getElem_toArray, List.getElem_cons_succ, List.getElem_cons_zero, List.setIfInBounds_toArray, List.set_cons_zero, List.set_cons_succ]
      refine wpAnyH_take (i := 19) (v := ?_) rfl (by kernel_rfl) (by kernel_rfl) (by kernel_rfl) (fun _ _ _ h => h) (Or.inl ⟨by rfl, fun w0 hSw => ?_⟩) hHeld ?_
      rotate_left
      · (try dsimp only at hSw)
        go_simp
        try with_reducible rfl
      simp only [Act.put, List.getElem_toArray, List.getElem_cons_succ, List.getElem_cons_zero, List.setIfInBounds_toArray, List.set_cons_zero, List.set_cons_succ]
      refine wpAnyH_take (i := 20) (v := ?_) rfl (by kernel_rfl) (by kernel_rfl) (by kernel_rfl) (fun _ _ _ h => h) (Or.inl ⟨by rfl, fun w0 hSw => ?_⟩) hHeld ?_
      rotate_left
      · (try dsimp only at hSw)
        go_simp
        try with_reducible rfl
      simp only [Act.put, List.getElem_toArray, List.getElem_cons_succ, List.getElem_cons_zero, List.setIfInBounds_toArray, List.set_cons_zero, List.set_cons_succ]
      refine wpAnyH_take (i := 21) (v := ?_) rfl (by kernel_rfl) (by kernel_rfl) (by kernel_rfl) (fun _ _ _ h => h) (Or.inl ⟨by rfl, fun w0 hSw => ?_⟩) hHeld ?_
      rotate_left
      · (try dsimp only at hSw)
        go_simp
        try with_reducible rfl
      simp only [Act.put, List.getElem_toArray, List.getElem_cons_succ, List.getElem_cons_zero, List.setIfInBounds_toArray, List.set_cons_zero, List.set_cons_succ]
      refine wpAnyH_take (i := 22) (v := ?_) rfl (by kernel_rfl) (by kernel_rfl) (by kernel_rfl) (fun _ _ _ h => h) (Or.inl ⟨by rfl, fun w0 hSw => ?_⟩) hHeld ?_
      rotate_left
      · (try dsimp only at hSw)
        go_simp
        try with_reducible rfl
      simp only [Act.put, List.getElem_toArray, List.getElem_cons_succ, List.getElem_cons_zero, List.setIfInBounds_toArray, List.set_cons_zero, List.set_cons_succ]
      refine wpAnyH_ready (rs := [23]) (by kernel_rfl) (by simp) ?_
      refine AllReadyH.cons (o := _) rfl (fun K hK => ?_) AllReadyH.nil
      go_simp
      go_at_call 34; refine (hzq.out ▸ r5cmp_any (HQ.out.ext (Ext.trans hx (Ext.trans b2 b3))) (HQ'.out.ext (Ext.trans hx (Ext.trans b2 b3))) SQ.out SQ.out).mono ?_; rintro e w4 ⟨_, rfl, b4, rfl⟩; (first | have XE := Ext.trans XE b4 | have XE := Ext.trans (Ext.trans XE (Ext.alloc _ _)) b4)
      go_wp2_with fail
      refine hK.out _ _ (⟨(KC.out.ext XE).c6, (KD.out.ext XE).c6⟩) (fun hHeld => ?_)
      clear hK K
      try simp only [Act.put, List.getElem_toArray, List.getElem_cons_succ, List.getElem_cons_zero, List.setIfInBounds_toArray, List.set_cons_zero, List.set_cons_succ]
      refine wpAnyH_take (i := 24) (v := ?_) rfl (by kernel_rfl) (by kernel_rfl) (by kernel_rfl) (fun _ _ _ h => h) (Or.inl ⟨by rfl, fun w0 hSw => ?_⟩) hHeld ?_
      rotate_left
      · (try dsimp only at hSw)
        go_simp
        try with_reducible rfl
      simp only [Act.put, List.getElem_toArray, List.getElem_cons_succ, List.getElem_cons_zero, List.setIfInBounds_toArray, List.set_cons_zero, List.set_cons_succ]
      refine wpAnyH_take (i := 25) (v := ?_) rfl (by kernel_rfl) (by kernel_rfl) (by kernel_rfl) (fun _ _ _ h => h) (Or.inl ⟨by rfl, fun w0 hSw => ?_⟩) hHeld ?_
      rotate_left
      · (try dsimp only at hSw)
        go_simp
        try with_reducible rfl
      simp only [Act.put, List.getElem_toArray, List.getElem_cons_succ, List.getElem_cons_zero, List.setIfInBounds_toArray, List.set_cons_zero, List.set_cons_succ]
      refine wpAnyH_done (by kernel_rfl) ?_ _
      refine NoPanic.normal ?_
      go_wp2_with fail
      go_roundw
      case rel => exact ⟨k + 1, by go_num, by omega, Ext.trans hx (Ext.trans b2 (Ext.trans b3 b4))⟩
      case measure => simp [intOf] <;> omega
    · have hk2 : k = l.length := by omega
      subst hk2
      go_wp2_with fail
      exact hR.out _ _ (Gives.mk hx rfl)
end Go.Proofs.Ytnbbhpihlcglgaa
