/- span.Add, Check, Has, Phase, Relu -/
import Derived.Test.YtnbbhpihlcglgaaPSpan
import Derived.Test.YtnbbhpihlcglgaaRatAll
namespace Go.Proofs.Ytnbbhpihlcglgaa
open Go.RowKit Go.Att

set_option linter.unusedSimpArgs false in
theorem sadd_any {w : World} {va vb : Value} {a b c d : Rat} (hp : RdD w va a b) (hq : RdD w vb c d) (sa : Sz 10000000 a) (sb : Sz 10000000 b) (sc : Sz 10000000 c) (sd : Sz 10000000 d) :
    Calls Try.prog 80 #[va, vb] w (Gives w fun v' w' => OwnD 163 w.heap.size w' v' (a + c) (b + d)) := by
  refine via fun R hR => ?_
  generalize hr : a + c = r at hR
  generalize hs : b + d = s at hR
  have HRR := Lib.hid hr
  have HSS := Lib.hid hs
  obtain ⟨x0, x1, x2, x3, x4, x5, rfl, h1, h2⟩ := hp
  obtain ⟨y0, y1, y2, y3, y4, y5, rfl, h3, h4⟩ := hq
  have HA := Lib.hid h1
  have HB := Lib.hid h2
  have HC := Lib.hid h3
  have HD := Lib.hid h4
  have SA := Lib.hid sa
  have SB := Lib.hid sb
  have SC := Lib.hid sc
  have SD := Lib.hid sd
  obtain ⟨w1, hw1, b1, c1, c2, -, -, -, r3, -⟩ := bx3 w [x0, x1, x2, x3, x4, x5] [y0, y1, y2, y3, y4, y5] [.bool false, .slice none 0 0, .slice none 0 0, .bool false, .slice none 0 0, .slice none 0 0] 34 34 34
  have C1 := Lib.hid c1
  have C2 := Lib.hid c2
  have RR : Hid (Rm w1 (w.heap.size + 1 + 1) 6) := r3
  have HW := Lib.hid hw1
  clear h1 h2 h3 h4 sa sb sc sd c1 c2 r3 hw1 hr hs
  go_enter Try.func80, Try.ntmps80
  go_upto_region 1 with (fail)
  rw [← HW.out]
  clear HW
  have b2 := drew_ext w1
  have XE := b2
  refine wp_region_noPanic ?_
  refine wp_region_held_drew (S := fun w' => (w'.cell? ⟨w.heap.size, 0, none⟩ = some (x0) ∧ w'.cell? ⟨w.heap.size, 1, none⟩ = some (x1) ∧ w'.cell? ⟨w.heap.size, 2, none⟩ = some (x2) ∧ w'.cell? ⟨w.heap.size, 3, none⟩ = some (x3) ∧ w'.cell? ⟨w.heap.size, 4, none⟩ = some (x4) ∧ w'.cell? ⟨w.heap.size, 5, none⟩ = some (x5)) ∧ (w'.cell? ⟨w.heap.size + 1, 0, none⟩ = some (y0) ∧ w'.cell? ⟨w.heap.size + 1, 1, none⟩ = some (y1) ∧ w'.cell? ⟨w.heap.size + 1, 2, none⟩ = some (y2) ∧ w'.cell? ⟨w.heap.size + 1, 3, none⟩ = some (y3) ∧ w'.cell? ⟨w.heap.size + 1, 4, none⟩ = some (y4) ∧ w'.cell? ⟨w.heap.size + 1, 5, none⟩ = some (y5))) (by kernel_rfl) (⟨(C1.out.ext XE).c6, (C2.out.ext XE).c6⟩) (fun hHeld => ?_)
  refine wpAnyH_take (i := 0) (v := ?_) rfl (by kernel_rfl) (by kernel_rfl) (by kernel_rfl) (fun _ _ _ h => h) (Or.inl ⟨by rfl, fun w0 hSw => ?_⟩) hHeld ?_
  rotate_left
  · (try dsimp only at hSw)
    go_simp
    try with_reducible rfl
  simp only [Act.put, List.getElem_toArray, List.getElem_cons_succ, List.getElem_cons_zero, List.setIfInBounds_toArray, List.set_cons_zero, List.set_cons_succ]
  refine wpAnyH_take (i := 1) (v := ?_) rfl (by kernel_rfl) (by kernel_rfl) (by kernel_rfl) (fun _ _ _ h => h) (Or.inl ⟨by rfl, fun w0 hSw => ?_⟩) hHeld ?_
  rotate_left
  · (try dsimp only at hSw)
    go_simp
    try with_reducible rfl
  simp only [Act.put, List.getElem_toArray, List.getElem_cons_succ, List.getElem_cons_zero, List.setIfInBounds_toArray, List.set_cons_zero, List.set_cons_succ]
  refine wpAnyH_take (i := 2) (v := ?_) rfl (by kernel_rfl) (by kernel_rfl) (by kernel_rfl) (fun _ _ _ h => h) (Or.inl ⟨by rfl, fun w0 hSw => ?_⟩) hHeld ?_
  rotate_left
  · (try dsimp only at hSw)
    go_simp
    try with_reducible rfl
  simp only [Act.put, List.getElem_toArray, List.getElem_cons_succ, List.getElem_cons_zero, List.setIfInBounds_toArray, List.set_cons_zero, List.set_cons_succ]
  refine wpAnyH_take (i := 3) (v := ?_) rfl (by kernel_rfl) (by kernel_rfl) (by kernel_rfl) (fun _ _ _ h => h) (Or.inl ⟨by rfl, fun w0 hSw => ?_⟩) hHeld ?_
  rotate_left
  · (try dsimp only at hSw)
    go_simp
    try with_reducible rfl
  simp only [Act.put, List.getElem_toArray, List.getElem_cons_succ, List.getElem_cons_zero, List.setIfInBounds_toArray, List.set_cons_zero, List.set_cons_succ]
  refine wpAnyH_take (i := 5) (v := ?_) rfl (by kernel_rfl) (by kernel_rfl) (by kernel_rfl) (fun _ _ _ h => h) (Or.inl ⟨by rfl, fun w0 hSw => ?_⟩) hHeld ?_
  rotate_left
  · (try dsimp only at hSw)
    go_simp
    try with_reducible rfl
  simp only [Act.put, List.getElem_toArray, List.getElem_cons_succ, List.getElem_cons_zero, List.setIfInBounds_toArray, List.set_cons_zero, List.set_cons_succ]
  refine wpAnyH_take (i := 6) (v := ?_) rfl (by kernel_rfl) (by kernel_rfl) (by kernel_rfl) (fun _ _ _ h => h) (Or.inl ⟨by rfl, fun w0 hSw => ?_⟩) hHeld ?_
  rotate_left
  · (try dsimp only at hSw)
    go_simp
    try with_reducible rfl
  simp only [Act.put, List.getElem_toArray, List.getElem_cons_succ, List.getElem_cons_zero, List.setIfInBounds_toArray, List.set_cons_zero, List.set_cons_succ]
  refine wpAnyH_take (i := 7) (v := ?_) rfl (by kernel_rfl) (by kernel_rfl) (by kernel_rfl) (fun _ _ _ h => h) (Or.inl ⟨by rfl, fun w0 hSw => ?_⟩) hHeld ?_
  rotate_left
  · (try dsimp only at hSw)
    go_simp
    try with_reducible rfl
  simp only [Act.put, List.getElem_toArray, List.getElem_cons_succ, List.getElem_cons_zero, List.setIfInBounds_toArray, List.set_cons_zero, List.set_cons_succ]
  refine wpAnyH_take (i := 8) (v := ?_) rfl (by kernel_rfl) (by kernel_rfl) (by kernel_rfl) (fun _ _ _ h => h) (Or.inl ⟨by rfl, fun w0 hSw => ?_⟩) hHeld ?_
  rotate_left
  · (try dsimp only at hSw)
    go_simp
    try with_reducible rfl
  simp only [Act.put, List.getElem_toArray, List.getElem_cons_succ, List.getElem_cons_zero, List.setIfInBounds_toArray, List.set_cons_zero, List.set_cons_succ]
  refine wpAnyH_ready (rs := [4]) (by kernel_rfl) (by simp) ?_
  refine AllReadyH.cons (o := _) rfl (fun K hK => ?_) AllReadyH.nil
  go_simp
  go_at_call 28; refine (HRR.out ▸ radd_any (HA.out.ext (Ext.trans b1 b2)) (HC.out.ext (Ext.trans b1 b2)) SA.out SC.out).mono ?_; rintro e w3 ⟨_, rfl, b3, n3, d3, rfl, on3, od3⟩; have ON3 := Lib.hid on3; have OD3 := Lib.hid od3; clear on3 od3; obtain ⟨an3, cn3, rfl, -, -, -, -⟩ := ON3.out.rd.1.shape; obtain ⟨ad3, cd3, rfl, -, -, -, -⟩ := OD3.out.rd.1.shape; (first | have XE := Ext.trans XE b3 | have XE := Ext.trans (Ext.trans XE (Ext.alloc _ _)) b3)
  go_wp2_with fail
  refine hK.out _ _ (⟨(C1.out.ext XE).c6, (C2.out.ext XE).c6⟩) (fun hHeld => ?_)
  clear hK K
  try simp only [Act.put, List.getElem_toArray, List.getElem_cons_succ, List.getElem_cons_zero, List.setIfInBounds_toArray, List.set_cons_zero, List.set_cons_succ]
  refine wpAnyH_ready (rs := [9]) (by kernel_rfl) (by simp) ?_
  refine AllReadyH.cons (o := _) rfl (fun K hK => ?_) AllReadyH.nil
  go_simp
  go_at_call 28; refine (HSS.out ▸ radd_any (HB.out.ext (Ext.trans b1 (Ext.trans b2 b3))) (HD.out.ext (Ext.trans b1 (Ext.trans b2 b3))) SB.out SD.out).mono ?_; rintro e w4 ⟨_, rfl, b4, n4, d4, rfl, on4, od4⟩; have ON4 := Lib.hid on4; have OD4 := Lib.hid od4; clear on4 od4; obtain ⟨an4, cn4, rfl, -, -, -, -⟩ := ON4.out.rd.1.shape; obtain ⟨ad4, cd4, rfl, -, -, -, -⟩ := OD4.out.rd.1.shape; (first | have XE := Ext.trans XE b4 | have XE := Ext.trans (Ext.trans XE (Ext.alloc _ _)) b4); obtain ⟨_, _, _, _, _, _, j0, j1, j2, j3, j4, j5, g0, g1, g2, g3, g4, g5⟩ := (RR.out.ext XE).c6
  go_wp2_with fail
  refine hK.out _ _ (⟨(C1.out.ext XE).c6, (C2.out.ext XE).c6⟩) (fun hHeld => ?_)
  clear hK K
  try simp only [Act.put, List.getElem_toArray, List.getElem_cons_succ, List.getElem_cons_zero, List.setIfInBounds_toArray, List.set_cons_zero, List.set_cons_succ]
  refine wpAnyH_take (i := 10) (v := ?_) rfl (by kernel_rfl) (by kernel_rfl) (by kernel_rfl) (fun _ _ _ h => h) (Or.inl ⟨by rfl, fun w0 hSw => ?_⟩) hHeld ?_
  rotate_left
  · (try dsimp only at hSw)
    go_simp
    try with_reducible rfl
  simp only [Act.put, List.getElem_toArray, List.getElem_cons_succ, List.getElem_cons_zero, List.setIfInBounds_toArray, List.set_cons_zero, List.set_cons_succ]
  refine wpAnyH_ready (rs := [11]) (by kernel_rfl) (by simp) ?_
  refine AllReadyH.cons (o := _) rfl (fun K hK => ?_) AllReadyH.nil
  go_simp
  refine hK.out _ _ (⟨((C1.out.ext XE).put6 (by omega) _ _ _ _ _ _).c6, ((C2.out.ext XE).put6 (by omega) _ _ _ _ _ _).c6⟩) (fun hHeld => ?_)
  clear hK K
  try simp only [Act.put, List.getElem_toArray, List.getElem_cons_succ, List.getElem_cons_zero, List.setIfInBounds_toArray, List.set_cons_zero, List.set_cons_succ]
  refine wpAnyH_done (by kernel_rfl) ?_ _
  refine NoPanic.normal ?_
  go_wp2_with fail
  refine bodyPost_ret (v := .agg #[.bool (decide (r.num < 0)), .slice an3 (limbs r.num.natAbs).length cn3, .slice ad3 (dens r.den).length cd3, .bool (decide (s.num < 0)), .slice an4 (limbs s.num.natAbs).length cn4, .slice ad4 (dens s.den).length cd4]) (by simp [results, Try.results80, go_sem, j0, j1, j2, j3, j4, j5]) rfl ?_
  have hz := Lib.hid (Below.size (Ext.trans b2 b3))
  have hs := Lib.hid RR.out.lt
  have hdr : w1.drew.heap.size = w1.heap.size := rfl
  exact hR.out _ _ (Gives.mk (put6_below (Ext.trans b1 (Ext.trans b2 (Ext.trans b3 b4))) (by have := hz.out; omega) _ _ _ _ _ _) ⟨_, _, _, _, rfl, (ON3.out.put6 b4 (by have := hz.out; have := hs.out; omega) _ _ _ _ _ _).mono (by have := hz.out; have := hs.out; omega), (OD3.out.put6 b4 (by have := hz.out; have := hs.out; omega) _ _ _ _ _ _).mono (by have := hz.out; have := hs.out; omega), (ON4.out.put6 (Ext.refl _) (by have := hz.out; have := hs.out; omega) _ _ _ _ _ _).mono (by have := hz.out; have := hs.out; omega), (OD4.out.put6 (Ext.refl _) (by have := hz.out; have := hs.out; omega) _ _ _ _ _ _).mono (by have := hz.out; have := hs.out; omega)⟩)


theorem scheck_any {w : World} {va : Value} {a b : Rat} (hp : RdD w va a b) (sa : Sz 10000000 a) (sb : Sz 10000000 b) :
    Calls Try.prog 26 #[va] w (Gives w fun v' _ => v' = .bool (decide ((a - b).num.sign ≤ 0))) := by
  refine via fun R hR => ?_
  obtain ⟨x0, x1, x2, x3, x4, x5, rfl, h1, h2⟩ := hp
  have HA := Lib.hid h1
  have HB := Lib.hid h2
  have SA := Lib.hid sa
  have SB := Lib.hid sb
  obtain ⟨w1, hw1, b1, c1, -, -⟩ := bx1 w [x0, x1, x2, x3, x4, x5] 34
  have HW := Lib.hid hw1
  obtain ⟨k0, k1, k2, k3, k4, k5⟩ := c1.c6
  clear h1 h2 sa sb c1 hw1
  go_enter Try.func26, Try.ntmps26
  go_upto_region 1 with (fail)
  rw [← HW.out]
  clear HW
  go_wp2_with fail
  clear k0 k1 k2 k3 k4 k5
  refine (rcmp_any (HA.out.ext b1) (HB.out.ext b1) SA.out SB.out).mono ?_
  rintro e w2 ⟨_, rfl, b2, rfl⟩
  generalize (a - b).num.sign = t at *
  go_wp2_with fail
  exact hR.out _ _ (Gives.mk (Ext.trans b1 b2) rfl)

theorem shas_any {w : World} {va vb : Value} {a b q : Rat} (hp : RdD w va a b) (hq : RdQ w vb q) (sa : Sz 10000000 a) (sb : Sz 10000000 b) (sq : Sz 10000000 q) :
    Calls Try.prog 27 #[va, vb] w (Gives w fun v' _ => v' = .bool (decide ((a - q).num.sign ≤ 0) && decide ((q - b).num.sign ≤ 0))) := by
  refine via fun R hR => ?_
  obtain ⟨x0, x1, x2, x3, x4, x5, rfl, h1, h2⟩ := hp
  have HQ := Lib.hid hq
  obtain ⟨y1, y2, rfl, -, -⟩ := hq
  have HA := Lib.hid h1
  have HB := Lib.hid h2
  have SA := Lib.hid sa
  have SB := Lib.hid sb
  have SQ := Lib.hid sq
  obtain ⟨w1, hw1, b1, c1, c2, -, -, -⟩ := bx2 w [x0, x1, x2, x3, x4, x5] [.bool (decide (q.num < 0)), y1, y2] 34 32
  have C1 := Lib.hid c1
  have C2 := Lib.hid c2
  have HW := Lib.hid hw1
  obtain ⟨k0, k1, k2, k3, k4, k5⟩ := c1.c6
  obtain ⟨l0, l1, l2⟩ := c2.c3
  clear h1 h2 sa sb sq c1 c2 hw1
  go_enter Try.func27, Try.ntmps27
  go_upto_region 1 with (fail)
  rw [← HW.out]
  clear HW
  go_wp2_with fail
  clear k0 k1 k2 k3 k4 k5 l0 l1 l2
  refine (rcmp_any (HA.out.ext b1) (HQ.out.ext b1) SA.out SQ.out).mono ?_
  rintro e w2 ⟨_, rfl, b2, rfl⟩
  generalize (a - q).num.sign = t at *
  by_cases h : t ≤ 0
  · have ht : decide (t ≤ 0) = true := decide_eq_true h
    rw [ht, Bool.true_and] at hR
    clear h
    obtain ⟨k0, k1, k2, k3, k4, k5⟩ := (C1.out.ext b2).c6
    obtain ⟨l0, l1, l2⟩ := (C2.out.ext b2).c3
    go_wp2_with fail
    clear k0 k1 k2 k3 k4 k5 l0 l1 l2
    refine (rcmp_any (HQ.out.ext (Ext.trans b1 b2)) (HB.out.ext (Ext.trans b1 b2)) SQ.out SB.out).mono ?_
    rintro e w3 ⟨_, rfl, b3, rfl⟩
    generalize (q - b).num.sign = u at *
    go_wp2_with fail
    exact hR.out _ _ (Gives.mk (Ext.trans b1 (Ext.trans b2 b3)) rfl)
  · have ht : decide (t ≤ 0) = false := decide_eq_false h
    rw [ht, Bool.false_and] at hR
    clear h
    go_wp2_with fail
    exact hR.out _ _ (Gives.mk (Ext.trans b1 b2) rfl)

/-- On which side of nought. -/
def phs (a b : Rat) : Int := if 0 ≤ a.num.sign then 1 else if b.num.sign ≤ 0 then -1 else 0
theorem sphase_any {w : World} {va : Value} {a b : Rat} (hp : RdD w va a b) :
    Calls Try.prog 83 #[va] w (Gives w fun v' _ => v' = .int .i64 (phs a b)) := by
  refine via fun R hR => ?_
  unfold phs at hR
  obtain ⟨x0, x1, x2, x3, x4, x5, rfl, h1, h2⟩ := hp
  have HA := Lib.hid h1
  have HB := Lib.hid h2
  obtain ⟨w1, hw1, b1, c1, -, -⟩ := bx1 w [x0, x1, x2, x3, x4, x5] 34
  have C1 := Lib.hid c1
  have HW := Lib.hid hw1
  obtain ⟨k0, k1, k2, k3, k4, k5⟩ := c1.c6
  clear h1 h2 c1 hw1
  go_enter Try.func83, Try.ntmps83
  go_upto_region 1 with (fail)
  rw [← HW.out]
  clear HW
  go_wp2_with fail
  clear k0 k1 k2 k3 k4 k5
  refine (rsign_any (HA.out.ext b1)).mono ?_
  rintro e w2 ⟨_, rfl, b2, rfl⟩
  generalize a.num.sign = t at *
  by_cases h : 0 ≤ t
  · rw [if_pos h] at hR
    have ht : decide (0 ≤ t) = true := decide_eq_true h
    clear h
    go_wp2_with fail
    exact hR.out _ _ (Gives.mk (Ext.trans b1 b2) rfl)
  · rw [if_neg h] at hR
    have ht : decide (0 ≤ t) = false := decide_eq_false h
    clear h
    obtain ⟨k0, k1, k2, k3, k4, k5⟩ := (C1.out.ext b2).c6
    go_wp2_with fail
    clear k0 k1 k2 k3 k4 k5
    refine (rsign_any (HB.out.ext (Ext.trans b1 b2))).mono ?_
    rintro e w3 ⟨_, rfl, b3, rfl⟩
    generalize b.num.sign = u at *
    by_cases h : u ≤ 0
    · rw [if_pos h] at hR
      have hu : decide (u ≤ 0) = true := decide_eq_true h
      clear h
      go_wp2_with fail
      exact hR.out _ _ (Gives.mk (Ext.trans b1 (Ext.trans b2 b3)) rfl)
    · rw [if_neg h] at hR
      have hu : decide (u ≤ 0) = false := decide_eq_false h
      clear h
      go_wp2_with fail
      exact hR.out _ _ (Gives.mk (Ext.trans b1 (Ext.trans b2 b3)) rfl)

/-- The cells of the greater one, and the call. -/
theorem max_cells {w : World} {x0 x1 x2 y0 y1 y2 : Value} {a b : Rat} (h1 : RdQ w (.agg #[x0, x1, x2]) a) (h2 : RdQ w (.agg #[y0, y1, y2]) b) (sa : Sz 10000000 a) (sb : Sz 10000000 b) :
    ∃ z0 z1 z2, RdQ w (.agg #[z0, z1, z2]) (mx a b) ∧ ∀ w', Ext w w' → Calls Try.prog 123 #[.agg #[x0, x1, x2], .agg #[y0, y1, y2]] w' (Gives w' fun v' _ => v' = .agg #[z0, z1, z2]) := by
  unfold mx
  by_cases h : 0 ≤ (a - b).num.sign
  · rw [if_pos h]
    exact ⟨x0, x1, x2, h1, fun _ X => by have := rmax_val (h1.ext X) (h2.ext X) sa sb; rw [if_pos h] at this; exact this⟩
  · rw [if_neg h]
    exact ⟨y0, y1, y2, h2, fun _ X => by have := rmax_val (h1.ext X) (h2.ext X) sa sb; rw [if_neg h] at this; exact this⟩

set_option maxHeartbeats 1000000 in
set_option linter.unusedSimpArgs false in
theorem srelu_any {w : World} {va : Value} {a b : Rat} (hp : RdD w va a b) (sa : Sz 10000000 a) (sb : Sz 10000000 b) :
    Calls Try.prog 116 #[va] w (Gives w fun v' w' => RdD w' v' (mx a 0) (mx b 0)) := by
  refine via fun R hR => ?_
  obtain ⟨x0, x1, x2, x3, x4, x5, rfl, h1, h2⟩ := hp
  obtain ⟨p0, p1, p2, hA, hcA⟩ := max_cells h1 (rdq_zero w) sa (Sz.zero.le (by decide))
  obtain ⟨q0, q1, q2, hB, hcB⟩ := max_cells h2 (rdq_zero w) sb (Sz.zero.le (by decide))
  generalize mx a 0 = A at *
  generalize mx b 0 = B at *
  obtain ⟨an3, cn3, ad3, cd3, rfl, rfl, rfl⟩ := shape_Q hA
  obtain ⟨an4, cn4, ad4, cd4, rfl, rfl, rfl⟩ := shape_Q hB
  have GA := Lib.hid hA
  have GB := Lib.hid hB
  have HCA := Lib.hid hcA
  have HCB := Lib.hid hcB
  obtain ⟨w1, hw1, b1, c1, -, c2, -, r2, -, -⟩ := bx3 w [x0, x1, x2, x3, x4, x5] [.bool false, .slice none 0 0, .slice none 0 0, .bool false, .slice none 0 0, .slice none 0 0] [.bool false, .slice none 0 0, .slice none 0 0] 34 34 32
  have C1 := Lib.hid c1
  have C2 := Lib.hid c2
  have RR : Hid (Rm w1 (w.heap.size + 1) 6) := r2
  have HW := Lib.hid hw1
  clear h1 h2 sa sb c1 c2 r2 hw1 hcA hcB hA hB
  go_enter Try.func116, Try.ntmps116
  go_upto_region 2 with (fail)
  rw [← HW.out]
  clear HW
  have b2 := drew_ext w1
  have XE := b2
  refine wp_region_noPanic ?_
  refine wp_region_held_drew (S := fun w' => (w'.cell? ⟨w.heap.size, 0, none⟩ = some (x0) ∧ w'.cell? ⟨w.heap.size, 1, none⟩ = some (x1) ∧ w'.cell? ⟨w.heap.size, 2, none⟩ = some (x2) ∧ w'.cell? ⟨w.heap.size, 3, none⟩ = some (x3) ∧ w'.cell? ⟨w.heap.size, 4, none⟩ = some (x4) ∧ w'.cell? ⟨w.heap.size, 5, none⟩ = some (x5)) ∧ (w'.cell? ⟨w.heap.size + 1 + 1, 0, none⟩ = some (.bool false) ∧ w'.cell? ⟨w.heap.size + 1 + 1, 1, none⟩ = some (.slice none 0 0) ∧ w'.cell? ⟨w.heap.size + 1 + 1, 2, none⟩ = some (.slice none 0 0))) (by kernel_rfl) (⟨(C1.out.ext XE).c6, (C2.out.ext XE).c3⟩) (fun hHeld => ?_)
  refine wpAnyH_take (i := 0) (v := ?_) rfl (by kernel_rfl) (by kernel_rfl) (by kernel_rfl) (fun _ _ _ h => h) (Or.inl ⟨by rfl, fun w0 hSw => ?_⟩) hHeld ?_
  rotate_left
  · (try dsimp only at hSw)
    go_simp
    try with_reducible rfl
  simp only [Act.put, List.getElem_toArray, List.getElem_cons_succ, List.getElem_cons_zero, List.setIfInBounds_toArray, List.set_cons_zero, List.set_cons_succ]
  refine wpAnyH_take (i := 1) (v := ?_) rfl (by kernel_rfl) (by kernel_rfl) (by kernel_rfl) (fun _ _ _ h => h) (Or.inl ⟨by rfl, fun w0 hSw => ?_⟩) hHeld ?_
  rotate_left
  · (try dsimp only at hSw)
    go_simp
    try with_reducible rfl
  simp only [Act.put, List.getElem_toArray, List.getElem_cons_succ, List.getElem_cons_zero, List.setIfInBounds_toArray, List.set_cons_zero, List.set_cons_succ]
  refine wpAnyH_take (i := 2) (v := ?_) rfl (by kernel_rfl) (by kernel_rfl) (by kernel_rfl) (fun _ _ _ h => h) (Or.inl ⟨by rfl, fun w0 hSw => ?_⟩) hHeld ?_
  rotate_left
  · (try dsimp only at hSw)
    go_simp
    try with_reducible rfl
  simp only [Act.put, List.getElem_toArray, List.getElem_cons_succ, List.getElem_cons_zero, List.setIfInBounds_toArray, List.set_cons_zero, List.set_cons_succ]
  refine wpAnyH_take (i := 4) (v := ?_) rfl (by kernel_rfl) (by kernel_rfl) (by kernel_rfl) (fun _ _ _ h => h) (Or.inl ⟨by rfl, fun w0 hSw => ?_⟩) hHeld ?_
  rotate_left
  · (try dsimp only at hSw)
    go_simp
    try with_reducible rfl
  simp only [Act.put, List.getElem_toArray, List.getElem_cons_succ, List.getElem_cons_zero, List.setIfInBounds_toArray, List.set_cons_zero, List.set_cons_succ]
  refine wpAnyH_take (i := 5) (v := ?_) rfl (by kernel_rfl) (by kernel_rfl) (by kernel_rfl) (fun _ _ _ h => h) (Or.inl ⟨by rfl, fun w0 hSw => ?_⟩) hHeld ?_
  rotate_left
  · (try dsimp only at hSw)
    go_simp
    try with_reducible rfl
  simp only [Act.put, List.getElem_toArray, List.getElem_cons_succ, List.getElem_cons_zero, List.setIfInBounds_toArray, List.set_cons_zero, List.set_cons_succ]
  refine wpAnyH_take (i := 6) (v := ?_) rfl (by kernel_rfl) (by kernel_rfl) (by kernel_rfl) (fun _ _ _ h => h) (Or.inl ⟨by rfl, fun w0 hSw => ?_⟩) hHeld ?_
  rotate_left
  · (try dsimp only at hSw)
    go_simp
    try with_reducible rfl
  simp only [Act.put, List.getElem_toArray, List.getElem_cons_succ, List.getElem_cons_zero, List.setIfInBounds_toArray, List.set_cons_zero, List.set_cons_succ]
  refine wpAnyH_ready (rs := [3]) (by kernel_rfl) (by simp) ?_
  refine AllReadyH.cons (o := _) rfl (fun K hK => ?_) AllReadyH.nil
  go_simp
  go_at_call 123; refine (HCA.out _ (Ext.trans b1 b2)).mono ?_; rintro e w3 ⟨_, rfl, b3, rfl⟩; (first | have XE := Ext.trans XE b3 | have XE := Ext.trans (Ext.trans XE (Ext.alloc _ _)) b3)
  go_wp2_with fail
  refine hK.out _ _ (⟨(C1.out.ext XE).c6, (C2.out.ext XE).c3⟩) (fun hHeld => ?_)
  clear hK K
  try simp only [Act.put, List.getElem_toArray, List.getElem_cons_succ, List.getElem_cons_zero, List.setIfInBounds_toArray, List.set_cons_zero, List.set_cons_succ]
  refine wpAnyH_ready (rs := [7]) (by kernel_rfl) (by simp) ?_
  refine AllReadyH.cons (o := _) rfl (fun K hK => ?_) AllReadyH.nil
  go_simp
  go_at_call 123; refine (HCB.out _ (Ext.trans b1 (Ext.trans b2 b3))).mono ?_; rintro e w4 ⟨_, rfl, b4, rfl⟩; (first | have XE := Ext.trans XE b4 | have XE := Ext.trans (Ext.trans XE (Ext.alloc _ _)) b4); obtain ⟨_, _, _, _, _, _, j0, j1, j2, j3, j4, j5, g0, g1, g2, g3, g4, g5⟩ := (RR.out.ext XE).c6
  go_wp2_with fail
  refine hK.out _ _ (⟨(C1.out.ext XE).c6, (C2.out.ext XE).c3⟩) (fun hHeld => ?_)
  clear hK K
  try simp only [Act.put, List.getElem_toArray, List.getElem_cons_succ, List.getElem_cons_zero, List.setIfInBounds_toArray, List.set_cons_zero, List.set_cons_succ]
  refine wpAnyH_take (i := 8) (v := ?_) rfl (by kernel_rfl) (by kernel_rfl) (by kernel_rfl) (fun _ _ _ h => h) (Or.inl ⟨by rfl, fun w0 hSw => ?_⟩) hHeld ?_
  rotate_left
  · (try dsimp only at hSw)
    go_simp
    try with_reducible rfl
  simp only [Act.put, List.getElem_toArray, List.getElem_cons_succ, List.getElem_cons_zero, List.setIfInBounds_toArray, List.set_cons_zero, List.set_cons_succ]
  refine wpAnyH_ready (rs := [9]) (by kernel_rfl) (by simp) ?_
  refine AllReadyH.cons (o := _) rfl (fun K hK => ?_) AllReadyH.nil
  go_simp
  refine hK.out _ _ (⟨((C1.out.ext XE).put6 (by omega) _ _ _ _ _ _).c6, ((C2.out.ext XE).put6 (by omega) _ _ _ _ _ _).c3⟩) (fun hHeld => ?_)
  clear hK K
  try simp only [Act.put, List.getElem_toArray, List.getElem_cons_succ, List.getElem_cons_zero, List.setIfInBounds_toArray, List.set_cons_zero, List.set_cons_succ]
  refine wpAnyH_done (by kernel_rfl) ?_ _
  refine NoPanic.normal ?_
  go_wp2_with fail
  refine bodyPost_ret (v := .agg #[.bool (decide (A.num < 0)), .slice an3 (limbs A.num.natAbs).length cn3, .slice ad3 (dens A.den).length cd3, .bool (decide (B.num < 0)), .slice an4 (limbs B.num.natAbs).length cn4, .slice ad4 (dens B.den).length cd4]) (by simp [results, Try.results116, go_sem, j0, j1, j2, j3, j4, j5]) rfl ?_
  have xx := put6_below (Ext.trans b1 (Ext.trans b2 (Ext.trans b3 b4))) (show w.heap.size ≤ w.heap.size + 1 by omega) (.bool (decide (A.num < 0))) (.slice an3 (limbs A.num.natAbs).length cn3) (.slice ad3 (dens A.den).length cd3) (.bool (decide (B.num < 0))) (.slice an4 (limbs B.num.natAbs).length cn4) (.slice ad4 (dens B.den).length cd4)
  exact hR.out _ _ (Gives.mk xx ⟨_, _, _, _, _, _, rfl, GA.out.ext xx, GB.out.ext xx⟩)
end Go.Proofs.Ytnbbhpihlcglgaa
