/- delta.Add, Neg, Sub, Scale; attestref07.At; attestlaw07.is -/
import Derived.Test.YtpeeacdnjbcmiaaPDelta
import Derived.Test.YtpeeacdnjbcmiaaPRatSub
import Derived.Test.YtpeeacdnjbcmiaaPRef5Mul
import Derived.Test.YtpeeacdnjbcmiaaPIs05
import Derived.Test.YtpeeacdnjbcmiaaRow
namespace Go.Proofs.Ytpeeacdnjbcmiaa
open Go.RowKit Go.Att

set_option linter.unusedSimpArgs false in
theorem dadd_any {w : World} {va vb : Value} {a b c d : Rat} (hp : RdD w va a b) (hq : RdD w vb c d) (sa : Sz 10000000 a) (sb : Sz 10000000 b) (sc : Sz 10000000 c) (sd : Sz 10000000 d) :
    Calls Try.prog 19 #[va, vb] w (Gives w fun v' w' => OwnD 148 w.heap.size w' v' (a + c) (b + d)) := by
  refine via fun R hR => ?_
  generalize hr : a + c = r at hR
  generalize hs : b + d = s at hR
  have HRR := Lib.hid hr
  have HSS := Lib.hid hs
  obtain ⟨x0, x1, x2, x3, x4, x5, rfl, h1, h2⟩ := hp
  obtain ⟨y0, y1, y2, y3, y4, y5, rfl, h3, h4⟩ := hq
  have HA := Lib.hid h1
  have HB := Lib.hid h2
  have HC := Lib.hid h3
  have HD := Lib.hid h4
  have SA := Lib.hid sa
  have SB := Lib.hid sb
  have SC := Lib.hid sc
  have SD := Lib.hid sd
  obtain ⟨w1, hw1, b1, c1, c2, -, -, -, r3, -⟩ := bx3 w [x0, x1, x2, x3, x4, x5] [y0, y1, y2, y3, y4, y5] [.bool false, .slice none 0 0, .slice none 0 0, .bool false, .slice none 0 0, .slice none 0 0] 30 30 30
  have C1 := Lib.hid c1
  have C2 := Lib.hid c2
  have RR : Hid (Rm w1 (w.heap.size + 1 + 1) 6) := r3
  have HW := Lib.hid hw1
  clear h1 h2 h3 h4 sa sb sc sd c1 c2 r3 hw1 hr hs
  go_enter Try.func19, Try.ntmps19
  go_upto_region 1 with (fail)
  rw [← HW.out]
  clear HW
  have b2 := drew_ext w1
  have XE := b2
  refine wp_region_noPanic ?_
  refine wp_region_held_drew (S := fun w' => (w'.cell? ⟨w.heap.size, 0, none⟩ = some (x0) ∧ w'.cell? ⟨w.heap.size, 1, none⟩ = some (x1) ∧ w'.cell? ⟨w.heap.size, 2, none⟩ = some (x2) ∧ w'.cell? ⟨w.heap.size, 3, none⟩ = some (x3) ∧ w'.cell? ⟨w.heap.size, 4, none⟩ = some (x4) ∧ w'.cell? ⟨w.heap.size, 5, none⟩ = some (x5)) ∧ (w'.cell? ⟨w.heap.size + 1, 0, none⟩ = some (y0) ∧ w'.cell? ⟨w.heap.size + 1, 1, none⟩ = some (y1) ∧ w'.cell? ⟨w.heap.size + 1, 2, none⟩ = some (y2) ∧ w'.cell? ⟨w.heap.size + 1, 3, none⟩ = some (y3) ∧ w'.cell? ⟨w.heap.size + 1, 4, none⟩ = some (y4) ∧ w'.cell? ⟨w.heap.size + 1, 5, none⟩ = some (y5))) (by kernel_rfl) (⟨(C1.out.ext XE).c6, (C2.out.ext XE).c6⟩) (fun hHeld => ?_)
  refine wpAnyH_take (i := 0) (v := ?_) rfl (by kernel_rfl) (by kernel_rfl) (by kernel_rfl) (fun _ _ _ h => h) (Or.inl ⟨by rfl, fun w0 hSw => ?_⟩) hHeld ?_
  rotate_left
  · (try dsimp only at hSw)
    go_simp
    try with_reducible rfl
  simp only [Act.put, List.getElem_toArray, List.getElem_cons_succ, List.getElem_cons_zero, List.setIfInBounds_toArray, List.set_cons_zero, List.set_cons_succ]
  refine wpAnyH_take (i := 1) (v := ?_) rfl (by kernel_rfl) (by kernel_rfl) (by kernel_rfl) (fun _ _ _ h => h) (Or.inl ⟨by rfl, fun w0 hSw => ?_⟩) hHeld ?_
  rotate_left
  · (try dsimp only at hSw)
    go_simp
    try with_reducible rfl
  simp only [Act.put, List.getElem_toArray, List.getElem_cons_succ, List.getElem_cons_zero, List.setIfInBounds_toArray, List.set_cons_zero, List.set_cons_succ]
  refine wpAnyH_take (i := 2) (v := ?_) rfl (by kernel_rfl) (by kernel_rfl) (by kernel_rfl) (fun _ _ _ h => h) (Or.inl ⟨by rfl, fun w0 hSw => ?_⟩) hHeld ?_
  rotate_left
  · (try dsimp only at hSw)
    go_simp
    try with_reducible rfl
  simp only [Act.put, List.getElem_toArray, List.getElem_cons_succ, List.getElem_cons_zero, List.setIfInBounds_toArray, List.set_cons_zero, List.set_cons_succ]
  refine wpAnyH_take (i := 3) (v := ?_) rfl (by kernel_rfl) (by kernel_rfl) (by kernel_rfl) (fun _ _ _ h => h) (Or.inl ⟨by rfl, fun w0 hSw => ?_⟩) hHeld ?_
  rotate_left
  · (try dsimp only at hSw)
    go_simp
    try with_reducible rfl
  simp only [Act.put, List.getElem_toArray, List.getElem_cons_succ, List.getElem_cons_zero, List.setIfInBounds_toArray, List.set_cons_zero, List.set_cons_succ]
  refine wpAnyH_take (i := 5) (v := ?_) rfl (by kernel_rfl) (by kernel_rfl) (by kernel_rfl) (fun _ _ _ h => h) (Or.inl ⟨by rfl, fun w0 hSw => ?_⟩) hHeld ?_
  rotate_left
  · (try dsimp only at hSw)
    go_simp
    try with_reducible rfl
  simp only [Act.put, List.getElem_toArray, List.getElem_cons_succ, List.getElem_cons_zero, List.setIfInBounds_toArray, List.set_cons_zero, List.set_cons_succ]
  refine wpAnyH_take (i := 6) (v := ?_) rfl (by kernel_rfl) (by kernel_rfl) (by kernel_rfl) (fun _ _ _ h => h) (Or.inl ⟨by rfl, fun w0 hSw => ?_⟩) hHeld ?_
  rotate_left
  · (try dsimp only at hSw)
    go_simp
    try with_reducible rfl
  simp only [Act.put, List.getElem_toArray, List.getElem_cons_succ, List.getElem_cons_zero, List.setIfInBounds_toArray, List.set_cons_zero, List.set_cons_succ]
  refine wpAnyH_take (i := 7) (v := ?_) rfl (by kernel_rfl) (by kernel_rfl) (by kernel_rfl) (fun _ _ _ h => h) (Or.inl ⟨by rfl, fun w0 hSw => ?_⟩) hHeld ?_
  rotate_left
  · (try dsimp only at hSw)
    go_simp
    try with_reducible rfl
  simp only [Act.put, List.getElem_toArray, List.getElem_cons_succ, List.getElem_cons_zero, List.setIfInBounds_toArray, List.set_cons_zero, List.set_cons_succ]
  refine wpAnyH_take (i := 8) (v := ?_) rfl (by kernel_rfl) (by kernel_rfl) (by kernel_rfl) (fun _ _ _ h => h) (Or.inl ⟨by rfl, fun w0 hSw => ?_⟩) hHeld ?_
  rotate_left
  · (try dsimp only at hSw)
    go_simp
    try with_reducible rfl
  simp only [Act.put, List.getElem_toArray, List.getElem_cons_succ, List.getElem_cons_zero, List.setIfInBounds_toArray, List.set_cons_zero, List.set_cons_succ]
  refine wpAnyH_ready (rs := [4]) (by kernel_rfl) (by simp) ?_
  refine AllReadyH.cons (o := _) rfl (fun K hK => ?_) AllReadyH.nil
  go_simp
  go_at_call 33; refine (HRR.out ▸ radd_any (HA.out.ext (Ext.trans b1 b2)) (HC.out.ext (Ext.trans b1 b2)) SA.out SC.out).mono ?_; rintro e w3 ⟨_, rfl, b3, n3, d3, rfl, on3, od3⟩; have ON3 := Lib.hid on3; have OD3 := Lib.hid od3; clear on3 od3; obtain ⟨an3, cn3, rfl, -, -, -, -⟩ := ON3.out.rd.1.shape; obtain ⟨ad3, cd3, rfl, -, -, -, -⟩ := OD3.out.rd.1.shape; (first | have XE := Ext.trans XE b3 | have XE := Ext.trans (Ext.trans XE (Ext.alloc _ _)) b3)
  go_wp2_with fail
  refine hK.out _ _ (⟨(C1.out.ext XE).c6, (C2.out.ext XE).c6⟩) (fun hHeld => ?_)
  clear hK K
  try simp only [Act.put, List.getElem_toArray, List.getElem_cons_succ, List.getElem_cons_zero, List.setIfInBounds_toArray, List.set_cons_zero, List.set_cons_succ]
  refine wpAnyH_ready (rs := [9]) (by kernel_rfl) (by simp) ?_
  refine AllReadyH.cons (o := _) rfl (fun K hK => ?_) AllReadyH.nil
  go_simp
  go_at_call 33; refine (HSS.out ▸ radd_any (HB.out.ext (Ext.trans b1 (Ext.trans b2 b3))) (HD.out.ext (Ext.trans b1 (Ext.trans b2 b3))) SB.out SD.out).mono ?_; rintro e w4 ⟨_, rfl, b4, n4, d4, rfl, on4, od4⟩; have ON4 := Lib.hid on4; have OD4 := Lib.hid od4; clear on4 od4; obtain ⟨an4, cn4, rfl, -, -, -, -⟩ := ON4.out.rd.1.shape; obtain ⟨ad4, cd4, rfl, -, -, -, -⟩ := OD4.out.rd.1.shape; (first | have XE := Ext.trans XE b4 | have XE := Ext.trans (Ext.trans XE (Ext.alloc _ _)) b4); obtain ⟨_, _, _, _, _, _, j0, j1, j2, j3, j4, j5, g0, g1, g2, g3, g4, g5⟩ := (RR.out.ext XE).c6
  go_wp2_with fail
  refine hK.out _ _ (⟨(C1.out.ext XE).c6, (C2.out.ext XE).c6⟩) (fun hHeld => ?_)
  clear hK K
  try simp only [Act.put, List.getElem_toArray, List.getElem_cons_succ, List.getElem_cons_zero, List.setIfInBounds_toArray, List.set_cons_zero, List.set_cons_succ]
  refine wpAnyH_take (i := 10) (v := ?_) rfl (by kernel_rfl) (by kernel_rfl) (by kernel_rfl) (fun _ _ _ h => h) (Or.inl ⟨by rfl, fun w0 hSw => ?_⟩) hHeld ?_
  rotate_left
  · (try dsimp only at hSw)
    go_simp
    try with_reducible rfl
  simp only [Act.put, List.getElem_toArray, List.getElem_cons_succ, List.getElem_cons_zero, List.setIfInBounds_toArray, List.set_cons_zero, List.set_cons_succ]
  refine wpAnyH_ready (rs := [11]) (by kernel_rfl) (by simp) ?_
  refine AllReadyH.cons (o := _) rfl (fun K hK => ?_) AllReadyH.nil
  go_simp
  refine hK.out _ _ (⟨((C1.out.ext XE).put6 (by omega) _ _ _ _ _ _).c6, ((C2.out.ext XE).put6 (by omega) _ _ _ _ _ _).c6⟩) (fun hHeld => ?_)
  clear hK K
  try simp only [Act.put, List.getElem_toArray, List.getElem_cons_succ, List.getElem_cons_zero, List.setIfInBounds_toArray, List.set_cons_zero, List.set_cons_succ]
  refine wpAnyH_done (by kernel_rfl) ?_ _
  refine NoPanic.normal ?_
  go_wp2_with fail
  refine bodyPost_ret (v := .agg #[.bool (decide (r.num < 0)), .slice an3 (limbs r.num.natAbs).length cn3, .slice ad3 (dens r.den).length cd3, .bool (decide (s.num < 0)), .slice an4 (limbs s.num.natAbs).length cn4, .slice ad4 (dens s.den).length cd4]) (by simp [results, Try.results19, go_sem, j0, j1, j2, j3, j4, j5]) rfl ?_
  have hz := Lib.hid (Below.size (Ext.trans b2 b3))
  have hs := Lib.hid RR.out.lt
  have hdr : w1.drew.heap.size = w1.heap.size := rfl
  exact hR.out _ _ (Gives.mk (put6_below (Ext.trans b1 (Ext.trans b2 (Ext.trans b3 b4))) (by have := hz.out; omega) _ _ _ _ _ _) ⟨_, _, _, _, rfl, (ON3.out.put6 b4 (by have := hz.out; have := hs.out; omega) _ _ _ _ _ _).mono (by have := hz.out; have := hs.out; omega), (OD3.out.put6 b4 (by have := hz.out; have := hs.out; omega) _ _ _ _ _ _).mono (by have := hz.out; have := hs.out; omega), (ON4.out.put6 (Ext.refl _) (by have := hz.out; have := hs.out; omega) _ _ _ _ _ _).mono (by have := hz.out; have := hs.out; omega), (OD4.out.put6 (Ext.refl _) (by have := hz.out; have := hs.out; omega) _ _ _ _ _ _).mono (by have := hz.out; have := hs.out; omega)⟩)

set_option linter.unusedSimpArgs false in
theorem dscale_any {w : World} {va vb : Value} {a c d : Rat} (hp : RdQ w va a) (hq : RdD w vb c d) (sa : Sz 10000000 a) (sc : Sz 10000000 c) (sd : Sz 10000000 d) :
    Calls Try.prog 24 #[va, vb] w (Gives w fun v' w' => OwnD 148 w.heap.size w' v' (a * c) (a * d)) := by
  refine via fun R hR => ?_
  generalize hr : a * c = r at hR
  generalize hs : a * d = s at hR
  have HRR := Lib.hid hr
  have HSS := Lib.hid hs
  have HA := Lib.hid hp
  obtain ⟨x1, x2, rfl, -, -⟩ := hp
  obtain ⟨y0, y1, y2, y3, y4, y5, rfl, h3, h4⟩ := hq
  have HC := Lib.hid h3
  have HD := Lib.hid h4
  have SA := Lib.hid sa
  have SC := Lib.hid sc
  have SD := Lib.hid sd
  obtain ⟨w1, hw1, b1, c1, c2, -, -, -, r3, -⟩ := bx3 w [.bool (decide (a.num < 0)), x1, x2] [y0, y1, y2, y3, y4, y5] [.bool false, .slice none 0 0, .slice none 0 0, .bool false, .slice none 0 0, .slice none 0 0] 28 30 30
  have C1 := Lib.hid c1
  have C2 := Lib.hid c2
  have RR : Hid (Rm w1 (w.heap.size + 1 + 1) 6) := r3
  have HW := Lib.hid hw1
  clear h3 h4 sa sc sd c1 c2 r3 hw1 hr hs
  go_enter Try.func24, Try.ntmps24
  go_upto_region 1 with (fail)
  rw [← HW.out]
  clear HW
  have b2 := drew_ext w1
  have XE := b2
  refine wp_region_noPanic ?_
  refine wp_region_held_drew (S := fun w' => (w'.cell? ⟨w.heap.size, 0, none⟩ = some (.bool (decide (a.num < 0))) ∧ w'.cell? ⟨w.heap.size, 1, none⟩ = some (x1) ∧ w'.cell? ⟨w.heap.size, 2, none⟩ = some (x2)) ∧ (w'.cell? ⟨w.heap.size + 1, 0, none⟩ = some (y0) ∧ w'.cell? ⟨w.heap.size + 1, 1, none⟩ = some (y1) ∧ w'.cell? ⟨w.heap.size + 1, 2, none⟩ = some (y2) ∧ w'.cell? ⟨w.heap.size + 1, 3, none⟩ = some (y3) ∧ w'.cell? ⟨w.heap.size + 1, 4, none⟩ = some (y4) ∧ w'.cell? ⟨w.heap.size + 1, 5, none⟩ = some (y5))) (by kernel_rfl) (⟨(C1.out.ext XE).c3, (C2.out.ext XE).c6⟩) (fun hHeld => ?_)
  refine wpAnyH_take (i := 0) (v := ?_) rfl (by kernel_rfl) (by kernel_rfl) (by kernel_rfl) (fun _ _ _ h => h) (Or.inl ⟨by rfl, fun w0 hSw => ?_⟩) hHeld ?_
  rotate_left
  · (try dsimp only at hSw)
    go_simp
    try with_reducible rfl
  simp only [Act.put, List.getElem_toArray, List.getElem_cons_succ, List.getElem_cons_zero, List.setIfInBounds_toArray, List.set_cons_zero, List.set_cons_succ]
  refine wpAnyH_take (i := 1) (v := ?_) rfl (by kernel_rfl) (by kernel_rfl) (by kernel_rfl) (fun _ _ _ h => h) (Or.inl ⟨by rfl, fun w0 hSw => ?_⟩) hHeld ?_
  rotate_left
  · (try dsimp only at hSw)
    go_simp
    try with_reducible rfl
  simp only [Act.put, List.getElem_toArray, List.getElem_cons_succ, List.getElem_cons_zero, List.setIfInBounds_toArray, List.set_cons_zero, List.set_cons_succ]
  refine wpAnyH_take (i := 2) (v := ?_) rfl (by kernel_rfl) (by kernel_rfl) (by kernel_rfl) (fun _ _ _ h => h) (Or.inl ⟨by rfl, fun w0 hSw => ?_⟩) hHeld ?_
  rotate_left
  · (try dsimp only at hSw)
    go_simp
    try with_reducible rfl
  simp only [Act.put, List.getElem_toArray, List.getElem_cons_succ, List.getElem_cons_zero, List.setIfInBounds_toArray, List.set_cons_zero, List.set_cons_succ]
  refine wpAnyH_take (i := 4) (v := ?_) rfl (by kernel_rfl) (by kernel_rfl) (by kernel_rfl) (fun _ _ _ h => h) (Or.inl ⟨by rfl, fun w0 hSw => ?_⟩) hHeld ?_
  rotate_left
  · (try dsimp only at hSw)
    go_simp
    try with_reducible rfl
  simp only [Act.put, List.getElem_toArray, List.getElem_cons_succ, List.getElem_cons_zero, List.setIfInBounds_toArray, List.set_cons_zero, List.set_cons_succ]
  refine wpAnyH_take (i := 5) (v := ?_) rfl (by kernel_rfl) (by kernel_rfl) (by kernel_rfl) (fun _ _ _ h => h) (Or.inl ⟨by rfl, fun w0 hSw => ?_⟩) hHeld ?_
  rotate_left
  · (try dsimp only at hSw)
    go_simp
    try with_reducible rfl
  simp only [Act.put, List.getElem_toArray, List.getElem_cons_succ, List.getElem_cons_zero, List.setIfInBounds_toArray, List.set_cons_zero, List.set_cons_succ]
  refine wpAnyH_take (i := 6) (v := ?_) rfl (by kernel_rfl) (by kernel_rfl) (by kernel_rfl) (fun _ _ _ h => h) (Or.inl ⟨by rfl, fun w0 hSw => ?_⟩) hHeld ?_
  rotate_left
  · (try dsimp only at hSw)
    go_simp
    try with_reducible rfl
  simp only [Act.put, List.getElem_toArray, List.getElem_cons_succ, List.getElem_cons_zero, List.setIfInBounds_toArray, List.set_cons_zero, List.set_cons_succ]
  refine wpAnyH_ready (rs := [3]) (by kernel_rfl) (by simp) ?_
  refine AllReadyH.cons (o := _) rfl (fun K hK => ?_) AllReadyH.nil
  go_simp
  go_at_call 56; refine (HRR.out ▸ rmul_any (HA.out.ext (Ext.trans b1 b2)) (HC.out.ext (Ext.trans b1 b2)) SA.out SC.out).mono ?_; rintro e w3 ⟨_, rfl, b3, n3, d3, rfl, on3, od3⟩; have ON3 := Lib.hid on3; have OD3 := Lib.hid od3; clear on3 od3; obtain ⟨an3, cn3, rfl, -, -, -, -⟩ := ON3.out.rd.1.shape; obtain ⟨ad3, cd3, rfl, -, -, -, -⟩ := OD3.out.rd.1.shape; (first | have XE := Ext.trans XE b3 | have XE := Ext.trans (Ext.trans XE (Ext.alloc _ _)) b3)
  go_wp2_with fail
  refine hK.out _ _ (⟨(C1.out.ext XE).c3, (C2.out.ext XE).c6⟩) (fun hHeld => ?_)
  clear hK K
  try simp only [Act.put, List.getElem_toArray, List.getElem_cons_succ, List.getElem_cons_zero, List.setIfInBounds_toArray, List.set_cons_zero, List.set_cons_succ]
  refine wpAnyH_ready (rs := [7]) (by kernel_rfl) (by simp) ?_
  refine AllReadyH.cons (o := _) rfl (fun K hK => ?_) AllReadyH.nil
  go_simp
  go_at_call 56; refine (HSS.out ▸ rmul_any (HA.out.ext (Ext.trans b1 (Ext.trans b2 b3))) (HD.out.ext (Ext.trans b1 (Ext.trans b2 b3))) SA.out SD.out).mono ?_; rintro e w4 ⟨_, rfl, b4, n4, d4, rfl, on4, od4⟩; have ON4 := Lib.hid on4; have OD4 := Lib.hid od4; clear on4 od4; obtain ⟨an4, cn4, rfl, -, -, -, -⟩ := ON4.out.rd.1.shape; obtain ⟨ad4, cd4, rfl, -, -, -, -⟩ := OD4.out.rd.1.shape; (first | have XE := Ext.trans XE b4 | have XE := Ext.trans (Ext.trans XE (Ext.alloc _ _)) b4); obtain ⟨_, _, _, _, _, _, j0, j1, j2, j3, j4, j5, g0, g1, g2, g3, g4, g5⟩ := (RR.out.ext XE).c6
  go_wp2_with fail
  refine hK.out _ _ (⟨(C1.out.ext XE).c3, (C2.out.ext XE).c6⟩) (fun hHeld => ?_)
  clear hK K
  try simp only [Act.put, List.getElem_toArray, List.getElem_cons_succ, List.getElem_cons_zero, List.setIfInBounds_toArray, List.set_cons_zero, List.set_cons_succ]
  refine wpAnyH_take (i := 8) (v := ?_) rfl (by kernel_rfl) (by kernel_rfl) (by kernel_rfl) (fun _ _ _ h => h) (Or.inl ⟨by rfl, fun w0 hSw => ?_⟩) hHeld ?_
  rotate_left
  · (try dsimp only at hSw)
    go_simp
    try with_reducible rfl
  simp only [Act.put, List.getElem_toArray, List.getElem_cons_succ, List.getElem_cons_zero, List.setIfInBounds_toArray, List.set_cons_zero, List.set_cons_succ]
  refine wpAnyH_ready (rs := [9]) (by kernel_rfl) (by simp) ?_
  refine AllReadyH.cons (o := _) rfl (fun K hK => ?_) AllReadyH.nil
  go_simp
  refine hK.out _ _ (⟨((C1.out.ext XE).put6 (by omega) _ _ _ _ _ _).c3, ((C2.out.ext XE).put6 (by omega) _ _ _ _ _ _).c6⟩) (fun hHeld => ?_)
  clear hK K
  try simp only [Act.put, List.getElem_toArray, List.getElem_cons_succ, List.getElem_cons_zero, List.setIfInBounds_toArray, List.set_cons_zero, List.set_cons_succ]
  refine wpAnyH_done (by kernel_rfl) ?_ _
  refine NoPanic.normal ?_
  go_wp2_with fail
  refine bodyPost_ret (v := .agg #[.bool (decide (r.num < 0)), .slice an3 (limbs r.num.natAbs).length cn3, .slice ad3 (dens r.den).length cd3, .bool (decide (s.num < 0)), .slice an4 (limbs s.num.natAbs).length cn4, .slice ad4 (dens s.den).length cd4]) (by simp [results, Try.results24, go_sem, j0, j1, j2, j3, j4, j5]) rfl ?_
  have hz := Lib.hid (Below.size (Ext.trans b2 b3))
  have hs := Lib.hid RR.out.lt
  have hdr : w1.drew.heap.size = w1.heap.size := rfl
  exact hR.out _ _ (Gives.mk (put6_below (Ext.trans b1 (Ext.trans b2 (Ext.trans b3 b4))) (by have := hz.out; omega) _ _ _ _ _ _) ⟨_, _, _, _, rfl, (ON3.out.put6 b4 (by have := hz.out; have := hs.out; omega) _ _ _ _ _ _).mono (by have := hz.out; have := hs.out; omega), (OD3.out.put6 b4 (by have := hz.out; have := hs.out; omega) _ _ _ _ _ _).mono (by have := hz.out; have := hs.out; omega), (ON4.out.put6 (Ext.refl _) (by have := hz.out; have := hs.out; omega) _ _ _ _ _ _).mono (by have := hz.out; have := hs.out; omega), (OD4.out.put6 (Ext.refl _) (by have := hz.out; have := hs.out; omega) _ _ _ _ _ _).mono (by have := hz.out; have := hs.out; omega)⟩)

theorem rdq_neg {w : World} {x n d : Value} {q : Rat} (h : RdQ w (.agg #[x, n, d]) q) : RdQ w (.agg #[.bool (decide ((-q).num < 0)), n, d]) (-q) := by
  obtain ⟨n', d', he, hn, hd⟩ := h
  obtain ⟨rfl, rfl, rfl⟩ : x = .bool (decide (q.num < 0)) ∧ n = n' ∧ d = d' := by simpa using he
  exact ⟨n, d, rfl, by rw [Rat.neg_num, Int.natAbs_neg]; exact hn, hd⟩
set_option linter.unusedSimpArgs false in
theorem dneg_any {w : World} {va : Value} {a b : Rat} (hp : RdD w va a b) :
    Calls Try.prog 23 #[va] w (Gives w fun v' w' => RdD w' v' (-a) (-b)) := by
  refine via fun R hR => ?_
  obtain ⟨x0, x1, x2, x3, x4, x5, rfl, h1, h2⟩ := hp
  obtain ⟨aa, ac, ab, ad, rfl, rfl, rfl⟩ := shape_Q h1
  obtain ⟨ba, bc, bb, bd, rfl, rfl, rfl⟩ := shape_Q h2
  have HA := Lib.hid h1
  have HB := Lib.hid h2
  obtain ⟨w1, hw1, b1, c1, -, -, r3, -⟩ := bx2 w [.bool (decide (a.num < 0)), .slice aa (limbs a.num.natAbs).length ac, .slice ab (dens a.den).length ad, .bool (decide (b.num < 0)), .slice ba (limbs b.num.natAbs).length bc, .slice bb (dens b.den).length bd] [.bool false, .slice none 0 0, .slice none 0 0, .bool false, .slice none 0 0, .slice none 0 0] 30 30
  have C1 := Lib.hid c1
  have RR : Hid (Rm w1 (w.heap.size + 1) 6) := r3
  have HW := Lib.hid hw1
  have hna : Hid (RdQ w (.agg #[.bool (decide ((-a).num < 0)), .slice aa (limbs a.num.natAbs).length ac, .slice ab (dens a.den).length ad]) (-a)) := rdq_neg h1
  have hnb : Hid (RdQ w (.agg #[.bool (decide ((-b).num < 0)), .slice ba (limbs b.num.natAbs).length bc, .slice bb (dens b.den).length bd]) (-b)) := rdq_neg h2
  have HNA := Lib.hid (fun w => @rneg_val w (.bool (decide (a.num < 0))) (.slice aa (limbs a.num.natAbs).length ac) (.slice ab (dens a.den).length ad) a)
  have HNB := Lib.hid (fun w => @rneg_val w (.bool (decide (b.num < 0))) (.slice ba (limbs b.num.natAbs).length bc) (.slice bb (dens b.den).length bd) b)
  generalize -a = r at *
  generalize -b = s at *
  clear h1 h2 c1 r3 hw1
  go_enter Try.func23, Try.ntmps23
  go_upto_region 1 with (fail)
  rw [← HW.out]
  clear HW
  have b2 := drew_ext w1
  have XE := b2
  refine wp_region_noPanic ?_
  refine wp_region_held_drew (S := fun w' => w'.cell? ⟨w.heap.size, 0, none⟩ = some (.bool (decide (a.num < 0))) ∧ w'.cell? ⟨w.heap.size, 1, none⟩ = some (.slice aa (limbs a.num.natAbs).length ac) ∧ w'.cell? ⟨w.heap.size, 2, none⟩ = some (.slice ab (dens a.den).length ad) ∧ w'.cell? ⟨w.heap.size, 3, none⟩ = some (.bool (decide (b.num < 0))) ∧ w'.cell? ⟨w.heap.size, 4, none⟩ = some (.slice ba (limbs b.num.natAbs).length bc) ∧ w'.cell? ⟨w.heap.size, 5, none⟩ = some (.slice bb (dens b.den).length bd)) (by kernel_rfl) ((C1.out.ext XE).c6) (fun hHeld => ?_)
  refine wpAnyH_take (i := 0) (v := ?_) rfl (by kernel_rfl) (by kernel_rfl) (by kernel_rfl) (fun _ _ _ h => h) (Or.inl ⟨by rfl, fun w0 hSw => ?_⟩) hHeld ?_
  rotate_left
  · (try dsimp only at hSw)
    go_simp
    try with_reducible rfl
  simp only [Act.put, List.getElem_toArray, List.getElem_cons_succ, List.getElem_cons_zero, List.setIfInBounds_toArray, List.set_cons_zero, List.set_cons_succ]
  refine wpAnyH_take (i := 1) (v := ?_) rfl (by kernel_rfl) (by kernel_rfl) (by kernel_rfl) (fun _ _ _ h => h) (Or.inl ⟨by rfl, fun w0 hSw => ?_⟩) hHeld ?_
  rotate_left
  · (try dsimp only at hSw)
    go_simp
    try with_reducible rfl
  simp only [Act.put, List.getElem_toArray, List.getElem_cons_succ, List.getElem_cons_zero, List.setIfInBounds_toArray, List.set_cons_zero, List.set_cons_succ]
  refine wpAnyH_take (i := 3) (v := ?_) rfl (by kernel_rfl) (by kernel_rfl) (by kernel_rfl) (fun _ _ _ h => h) (Or.inl ⟨by rfl, fun w0 hSw => ?_⟩) hHeld ?_
  rotate_left
  · (try dsimp only at hSw)
    go_simp
    try with_reducible rfl
  simp only [Act.put, List.getElem_toArray, List.getElem_cons_succ, List.getElem_cons_zero, List.setIfInBounds_toArray, List.set_cons_zero, List.set_cons_succ]
  refine wpAnyH_take (i := 4) (v := ?_) rfl (by kernel_rfl) (by kernel_rfl) (by kernel_rfl) (fun _ _ _ h => h) (Or.inl ⟨by rfl, fun w0 hSw => ?_⟩) hHeld ?_
  rotate_left
  · (try dsimp only at hSw)
    go_simp
    try with_reducible rfl
  simp only [Act.put, List.getElem_toArray, List.getElem_cons_succ, List.getElem_cons_zero, List.setIfInBounds_toArray, List.set_cons_zero, List.set_cons_succ]
  refine wpAnyH_ready (rs := [2]) (by kernel_rfl) (by simp) ?_
  refine AllReadyH.cons (o := _) rfl (fun K hK => ?_) AllReadyH.nil
  go_simp
  go_at_call 92; refine (HNA.out _ (HA.out.ext (Ext.trans b1 b2))).mono ?_; rintro e w3 ⟨_, rfl, b3, rfl⟩; (first | have XE := Ext.trans XE b3 | have XE := Ext.trans (Ext.trans XE (Ext.alloc _ _)) b3)
  go_wp2_with fail
  refine hK.out _ _ ((C1.out.ext XE).c6) (fun hHeld => ?_)
  clear hK K
  try simp only [Act.put, List.getElem_toArray, List.getElem_cons_succ, List.getElem_cons_zero, List.setIfInBounds_toArray, List.set_cons_zero, List.set_cons_succ]
  refine wpAnyH_ready (rs := [5]) (by kernel_rfl) (by simp) ?_
  refine AllReadyH.cons (o := _) rfl (fun K hK => ?_) AllReadyH.nil
  go_simp
  go_at_call 92; refine (HNB.out _ (HB.out.ext (Ext.trans b1 (Ext.trans b2 b3)))).mono ?_; rintro e w4 ⟨_, rfl, b4, rfl⟩; (first | have XE := Ext.trans XE b4 | have XE := Ext.trans (Ext.trans XE (Ext.alloc _ _)) b4); obtain ⟨_, _, _, _, _, _, j0, j1, j2, j3, j4, j5, g0, g1, g2, g3, g4, g5⟩ := (RR.out.ext XE).c6
  go_wp2_with fail
  refine hK.out _ _ ((C1.out.ext XE).c6) (fun hHeld => ?_)
  clear hK K
  try simp only [Act.put, List.getElem_toArray, List.getElem_cons_succ, List.getElem_cons_zero, List.setIfInBounds_toArray, List.set_cons_zero, List.set_cons_succ]
  refine wpAnyH_take (i := 6) (v := ?_) rfl (by kernel_rfl) (by kernel_rfl) (by kernel_rfl) (fun _ _ _ h => h) (Or.inl ⟨by rfl, fun w0 hSw => ?_⟩) hHeld ?_
  rotate_left
  · (try dsimp only at hSw)
    go_simp
    try with_reducible rfl
  simp only [Act.put, List.getElem_toArray, List.getElem_cons_succ, List.getElem_cons_zero, List.setIfInBounds_toArray, List.set_cons_zero, List.set_cons_succ]
  refine wpAnyH_ready (rs := [7]) (by kernel_rfl) (by simp) ?_
  refine AllReadyH.cons (o := _) rfl (fun K hK => ?_) AllReadyH.nil
  go_simp
  refine hK.out _ _ (((C1.out.ext XE).put6 (by omega) _ _ _ _ _ _).c6) (fun hHeld => ?_)
  clear hK K
  try simp only [Act.put, List.getElem_toArray, List.getElem_cons_succ, List.getElem_cons_zero, List.setIfInBounds_toArray, List.set_cons_zero, List.set_cons_succ]
  refine wpAnyH_done (by kernel_rfl) ?_ _
  refine NoPanic.normal ?_
  go_wp2_with fail
  refine bodyPost_ret (v := .agg #[.bool (decide (r.num < 0)), .slice aa (limbs a.num.natAbs).length ac, .slice ab (dens a.den).length ad, .bool (decide (s.num < 0)), .slice ba (limbs b.num.natAbs).length bc, .slice bb (dens b.den).length bd]) (by simp [results, Try.results23, go_sem, j0, j1, j2, j3, j4, j5]) rfl ?_
  have xx := put6_below (Ext.trans b1 (Ext.trans b2 (Ext.trans b3 b4))) (show w.heap.size ≤ w.heap.size + 1 by omega) (.bool (decide (r.num < 0))) (.slice aa (limbs a.num.natAbs).length ac) (.slice ab (dens a.den).length ad) (.bool (decide (s.num < 0))) (.slice ba (limbs b.num.natAbs).length bc) (.slice bb (dens b.den).length bd)
  exact hR.out _ _ (Gives.mk xx ⟨_, _, _, _, _, _, rfl, hna.out.ext xx, hnb.out.ext xx⟩)

set_option linter.unusedSimpArgs false in
theorem dsub_any {w : World} {va vb : Value} {a b c d : Rat} (hp : RdD w va a b) (hq : RdD w vb c d) (sa : Sz 10000000 a) (sb : Sz 10000000 b) (sc : Sz 10000000 c) (sd : Sz 10000000 d) :
    Calls Try.prog 21 #[va, vb] w (Gives w fun v' w' => OwnD 148 w.heap.size w' v' (a - c) (b - d)) := by
  refine via fun R hR => ?_
  rw [Rat.sub_eq_add_neg, Rat.sub_eq_add_neg] at hR
  generalize hr : a + -c = r at hR
  generalize hs : b + -d = s at hR
  have HRS : Hid (∀ {w va vb}, RdD w va a b → RdD w vb (-c) (-d) → Calls Try.prog 19 #[va, vb] w (Gives w fun v' w' => OwnD 148 w.heap.size w' v' r s)) := fun h1 h2 => hr ▸ hs ▸ dadd_any h1 h2 sa sb sc.neg sd.neg
  have HP := Lib.hid hp
  have HQ := Lib.hid hq
  obtain ⟨x0, x1, x2, x3, x4, x5, rfl, h1, h2⟩ := hp
  obtain ⟨y0, y1, y2, y3, y4, y5, rfl, h3, h4⟩ := hq
  obtain ⟨w1, hw1, b1, c1, c2, -, -, -, r3, -⟩ := bx3 w [x0, x1, x2, x3, x4, x5] [y0, y1, y2, y3, y4, y5] [.bool false, .slice none 0 0, .slice none 0 0, .bool false, .slice none 0 0, .slice none 0 0] 30 30 30
  have C1 := Lib.hid c1
  have C2 := Lib.hid c2
  have RR : Hid (Rm w1 (w.heap.size + 1 + 1) 6) := r3
  have HW := Lib.hid hw1
  clear h1 h2 h3 h4 sa sb sc sd c1 c2 r3 hw1 hr hs
  go_enter Try.func21, Try.ntmps21
  go_upto_region 1 with (fail)
  rw [← HW.out]
  clear HW
  have b2 := drew_ext w1
  have XE := b2
  refine wp_region_noPanic ?_
  refine wp_region_held_drew (S := fun w' => (w'.cell? ⟨w.heap.size, 0, none⟩ = some (x0) ∧ w'.cell? ⟨w.heap.size, 1, none⟩ = some (x1) ∧ w'.cell? ⟨w.heap.size, 2, none⟩ = some (x2) ∧ w'.cell? ⟨w.heap.size, 3, none⟩ = some (x3) ∧ w'.cell? ⟨w.heap.size, 4, none⟩ = some (x4) ∧ w'.cell? ⟨w.heap.size, 5, none⟩ = some (x5)) ∧ (w'.cell? ⟨w.heap.size + 1, 0, none⟩ = some (y0) ∧ w'.cell? ⟨w.heap.size + 1, 1, none⟩ = some (y1) ∧ w'.cell? ⟨w.heap.size + 1, 2, none⟩ = some (y2) ∧ w'.cell? ⟨w.heap.size + 1, 3, none⟩ = some (y3) ∧ w'.cell? ⟨w.heap.size + 1, 4, none⟩ = some (y4) ∧ w'.cell? ⟨w.heap.size + 1, 5, none⟩ = some (y5))) (by kernel_rfl) (⟨(C1.out.ext XE).c6, (C2.out.ext XE).c6⟩) (fun hHeld => ?_)
  refine wpAnyH_take (i := 0) (v := ?_) rfl (by kernel_rfl) (by kernel_rfl) (by kernel_rfl) (fun _ _ _ h => h) (Or.inl ⟨by rfl, fun w0 hSw => ?_⟩) hHeld ?_
  rotate_left
  · (try dsimp only at hSw)
    go_simp
    try with_reducible rfl
  simp only [Act.put, List.getElem_toArray, List.getElem_cons_succ, List.getElem_cons_zero, List.setIfInBounds_toArray, List.set_cons_zero, List.set_cons_succ]
  refine wpAnyH_take (i := 1) (v := ?_) rfl (by kernel_rfl) (by kernel_rfl) (by kernel_rfl) (fun _ _ _ h => h) (Or.inl ⟨by rfl, fun w0 hSw => ?_⟩) hHeld ?_
  rotate_left
  · (try dsimp only at hSw)
    go_simp
    try with_reducible rfl
  simp only [Act.put, List.getElem_toArray, List.getElem_cons_succ, List.getElem_cons_zero, List.setIfInBounds_toArray, List.set_cons_zero, List.set_cons_succ]
  refine wpAnyH_ready (rs := [2]) (by kernel_rfl) (by simp) ?_
  refine AllReadyH.cons (o := _) rfl (fun K hK => ?_) AllReadyH.nil
  go_simp
  go_at_call 23; refine (dneg_any (HQ.out.ext (Ext.trans b1 b2))).mono ?_; rintro e w3 ⟨v3, rfl, b3, o3⟩; have O3 := Lib.hid o3; clear o3; (first | have XE := Ext.trans XE b3 | have XE := Ext.trans (Ext.trans XE (Ext.alloc _ _)) b3)
  go_wp2_with fail
  refine hK.out _ _ (⟨(C1.out.ext XE).c6, (C2.out.ext XE).c6⟩) (fun hHeld => ?_)
  clear hK K
  try simp only [Act.put, List.getElem_toArray, List.getElem_cons_succ, List.getElem_cons_zero, List.setIfInBounds_toArray, List.set_cons_zero, List.set_cons_succ]
  refine wpAnyH_ready (rs := [3]) (by kernel_rfl) (by simp) ?_
  refine AllReadyH.cons (o := _) rfl (fun K hK => ?_) AllReadyH.nil
  go_simp
  go_at_call 19; refine (HRS.out (HP.out.ext (Ext.trans b1 (Ext.trans b2 b3))) O3.out).mono ?_; rintro e w4 ⟨_, rfl, b4, n4, d4, m4, c4, rfl, on4, od4, om4, oc4⟩; have ON4 := Lib.hid on4; have OD4 := Lib.hid od4; have OM4 := Lib.hid om4; have OC4 := Lib.hid oc4; clear on4 od4 om4 oc4; obtain ⟨an4, cn4, rfl, -, -, -, -⟩ := ON4.out.rd.1.shape; obtain ⟨ad4, cd4, rfl, -, -, -, -⟩ := OD4.out.rd.1.shape; obtain ⟨am4, cm4, rfl, -, -, -, -⟩ := OM4.out.rd.1.shape; obtain ⟨ac4, cc4, rfl, -, -, -, -⟩ := OC4.out.rd.1.shape; (first | have XE := Ext.trans XE b4 | have XE := Ext.trans (Ext.trans XE (Ext.alloc _ _)) b4); obtain ⟨_, _, _, _, _, _, j0, j1, j2, j3, j4, j5, g0, g1, g2, g3, g4, g5⟩ := (RR.out.ext XE).c6
  go_wp2_with fail
  refine hK.out _ _ (⟨(C1.out.ext XE).c6, (C2.out.ext XE).c6⟩) (fun hHeld => ?_)
  clear hK K
  try simp only [Act.put, List.getElem_toArray, List.getElem_cons_succ, List.getElem_cons_zero, List.setIfInBounds_toArray, List.set_cons_zero, List.set_cons_succ]
  refine wpAnyH_ready (rs := [4]) (by kernel_rfl) (by simp) ?_
  refine AllReadyH.cons (o := _) rfl (fun K hK => ?_) AllReadyH.nil
  go_simp
  refine hK.out _ _ (⟨((C1.out.ext XE).put6 (by omega) _ _ _ _ _ _).c6, ((C2.out.ext XE).put6 (by omega) _ _ _ _ _ _).c6⟩) (fun hHeld => ?_)
  clear hK K
  try simp only [Act.put, List.getElem_toArray, List.getElem_cons_succ, List.getElem_cons_zero, List.setIfInBounds_toArray, List.set_cons_zero, List.set_cons_succ]
  refine wpAnyH_done (by kernel_rfl) ?_ _
  refine NoPanic.normal ?_
  go_wp2_with fail
  refine bodyPost_ret (v := .agg #[.bool (decide (r.num < 0)), .slice an4 (limbs r.num.natAbs).length cn4, .slice ad4 (dens r.den).length cd4, .bool (decide (s.num < 0)), .slice am4 (limbs s.num.natAbs).length cm4, .slice ac4 (dens s.den).length cc4]) (by simp [results, Try.results21, go_sem, j0, j1, j2, j3, j4, j5]) rfl ?_
  have hz := Lib.hid (Below.size (Ext.trans b2 b3))
  have hs := Lib.hid RR.out.lt
  have hdr : w1.drew.heap.size = w1.heap.size := rfl
  exact hR.out _ _ (Gives.mk (put6_below (Ext.trans b1 (Ext.trans b2 (Ext.trans b3 b4))) (by omega) _ _ _ _ _ _) ⟨_, _, _, _, rfl, (ON4.out.put6 (Ext.refl _) (by have := hz.out; have := hs.out; omega) _ _ _ _ _ _).mono (by have := hz.out; have := hs.out; omega), (OD4.out.put6 (Ext.refl _) (by have := hz.out; have := hs.out; omega) _ _ _ _ _ _).mono (by have := hz.out; have := hs.out; omega), (OM4.out.put6 (Ext.refl _) (by have := hz.out; have := hs.out; omega) _ _ _ _ _ _).mono (by have := hz.out; have := hs.out; omega), (OC4.out.put6 (Ext.refl _) (by have := hz.out; have := hs.out; omega) _ _ _ _ _ _).mono (by have := hz.out; have := hs.out; omega)⟩)

theorem r7at_any {w : World} {va vb : Value} {a b q : Rat} (hp : RdE w va a b) (hq : RdP w vb q) (sa : Sb 20000 a) (sb : Sb 20000 b) (sq : Sb 20000 q) (sm : Sb 50000 (b * q)) :
    Calls Try.prog 30 #[va, vb] w (Gives w fun v' w' => OwnP 4 w.heap.size w' v' (a + b * q)) := by
  refine via fun R hR => ?_
  generalize hr : a + b * q = r at hR
  have HRR := Lib.hid hr
  clear hr
  obtain ⟨x0, x1, x2, x3, x4, x5, rfl, h1, h2⟩ := hp
  have HA := Lib.hid h1
  have HB := Lib.hid h2
  have HQ := Lib.hid hq
  have SA := Lib.hid sa
  have SB := Lib.hid sb
  have SQ := Lib.hid sq
  have SM := Lib.hid sm
  obtain ⟨y0, y1, rfl, -, -⟩ := hq
  obtain ⟨w1, hw1, b1, c1, c2, -, -, -, r3, -⟩ := bx3 w [x0, x1, x2, x3, x4, x5] [.bool (decide (q.num < 0)), y0, y1] [.bool false, .slice none 0 0, .slice none 0 0] 35 33 33
  have C1 := Lib.hid c1
  have C2 := Lib.hid c2
  have C3 : Hid (Room3 w1 (w.heap.size + 1 + 1)) := r3.room3
  have HW := Lib.hid hw1
  clear h1 h2 sa sb sq sm c1 c2 r3 hw1
  go_enter Try.func30, Try.ntmps30
  go_upto_region 1 with (fail)
  rw [← HW.out]
  clear HW
  have b2 := drew_ext w1
  have XE := b2
  go_region_held3 (fun w' => (w'.cell? ⟨w.heap.size, 0, none⟩ = some (x0) ∧ w'.cell? ⟨w.heap.size, 1, none⟩ = some (x1) ∧ w'.cell? ⟨w.heap.size, 2, none⟩ = some (x2) ∧ w'.cell? ⟨w.heap.size, 3, none⟩ = some (x3) ∧ w'.cell? ⟨w.heap.size, 4, none⟩ = some (x4) ∧ w'.cell? ⟨w.heap.size, 5, none⟩ = some (x5)) ∧ (w'.cell? ⟨w.heap.size + 1, 0, none⟩ = some (.bool (decide (q.num < 0))) ∧ w'.cell? ⟨w.heap.size + 1, 1, none⟩ = some (y0) ∧ w'.cell? ⟨w.heap.size + 1, 2, none⟩ = some (y1))) (first | exact ⟨(C1.out.ext XE).c6, (C2.out.ext XE).c3⟩ | exact ⟨((C1.out.ext XE).put3 (by omega) _ _ _).c6, ((C2.out.ext XE).put3 (by omega) _ _ _).c3⟩)
    (first
     | (go_at_call 20; refine (HRR.out ▸ r5add_any (HA.out.ext (Ext.trans b1 (Ext.trans b2 b3))) O3.out.rd (SA.out.le (by decide)) SM.out).mono ?_; rintro e w4 ⟨_, rfl, b4, n4, d4, rfl, on4, od4⟩; have ON4 := Lib.hid on4; have OD4 := Lib.hid od4; clear on4 od4; obtain ⟨an4, cn4, rfl, -, -, -, -⟩ := ON4.out.rd.shape; obtain ⟨ad4, cd4, rfl, -, -, -, -⟩ := OD4.out.rd.shape; (first | have XE := Ext.trans XE b4 | have XE := Ext.trans (Ext.trans XE (Ext.alloc _ _)) b4); obtain ⟨_, _, _, j0, j1, j2, g0, g1, g2⟩ := (C3.out.ext XE).cells)
     | (go_at_call 25; refine (r5mul_any (HB.out.ext (Ext.trans b1 b2)) (HQ.out.ext (Ext.trans b1 b2)) (SB.out.le (by decide)) (SQ.out.le (by decide))).mono ?_; rintro e w3 ⟨v3, rfl, b3, o3⟩; have O3 := Lib.hid o3; clear o3; (first | have XE := Ext.trans XE b3 | have XE := Ext.trans (Ext.trans XE (Ext.alloc _ _)) b3)))
  go_wp2_with fail
  refine bodyPost_ret (v := .agg #[.bool (decide (r.num < 0)), .slice an4 (bitsOf r.num.natAbs).length cn4, .slice ad4 (bitsOf r.den).length cd4]) (by simp [results, Try.results30, go_sem, j0, j1, j2]) rfl ?_
  have hz := Lib.hid (Below.size (Ext.trans b2 b3))
  have hs : Hid (w.heap.size + 1 + 1 < w1.heap.size) := by obtain ⟨_, _, _, _, h⟩ := C3.out; exact (Array.getElem?_eq_some_iff.1 h).1
  exact hR.out _ _ (Gives.mk (put3_below (Ext.trans b1 (Ext.trans b2 (Ext.trans b3 b4))) (by omega) _ _ _) ⟨_, _, rfl, (OwnB.put3 ON4.out (Ext.refl _) (by have := hz.out; have := hs.out; omega) _ _ _).mono (by have := hz.out; have := hs.out; omega), (OwnB.put3 OD4.out (Ext.refl _) (by have := hz.out; have := hs.out; omega) _ _ _).mono (by have := hz.out; have := hs.out; omega)⟩)

theorem is7_yes {w : World} {va vb vc : Value} {a b : Rat} (hp : RdD w va a b) (ha : RdP w vb a) (hb : RdP w vc b) (sa : Sz 1000000 a) (sb : Sz 1000000 b) :
    Calls Try.prog 18 #[va, vb, vc] w (Gives w fun v' _ => v' = .bool true) := by
  refine via fun R hR => ?_
  obtain ⟨x0, x1, x2, x3, x4, x5, rfl, h1, h2⟩ := hp
  have HA := Lib.hid h1
  have HB := Lib.hid h2
  have HPA := Lib.hid ha
  have HPB := Lib.hid hb
  have SA := Lib.hid sa
  have SB := Lib.hid sb
  obtain ⟨y1, y2, rfl, -, -⟩ := ha
  obtain ⟨z1, z2, rfl, -, -⟩ := hb
  obtain ⟨w1, hw1, b1, c1, c2, c3, -, -, -, -⟩ := bx3 w [x0, x1, x2, x3, x4, x5] [.bool (decide (a.num < 0)), y1, y2] [.bool (decide (b.num < 0)), z1, z2] 30 33 33
  have C1 := Lib.hid c1
  have C2 := Lib.hid c2
  have C3 := Lib.hid c3
  have HW := Lib.hid hw1
  clear h1 h2 sa sb c1 c2 c3 hw1
  go_enter Try.func18, Try.ntmps18
  go_upto_region 1 with (fail)
  rw [← HW.out]
  clear HW
  obtain ⟨k0, k1, k2, k3, k4, k5⟩ := C1.out.c6
  obtain ⟨l0, l1, l2⟩ := C2.out.c3
  go_wp2_with fail
  clear k0 k1 k2 k3 k4 k5 l0 l1 l2
  refine (is_yes (HA.out.ext b1) (HPA.out.ext b1) SA.out).mono ?_
  rintro e w2 ⟨_, rfl, b2, rfl⟩
  obtain ⟨k0, k1, k2, k3, k4, k5⟩ := (C1.out.ext b2).c6
  obtain ⟨l0, l1, l2⟩ := (C3.out.ext b2).c3
  go_wp2_with fail
  clear k0 k1 k2 k3 k4 k5 l0 l1 l2
  refine (is_yes (HB.out.ext (Ext.trans b1 b2)) (HPB.out.ext (Ext.trans b1 b2)) SB.out).mono ?_
  rintro e w3 ⟨_, rfl, b3, rfl⟩
  go_wp2_with fail
  exact hR.out _ _ (Gives.mk (Ext.trans b1 (Ext.trans b2 b3)) rfl)
end Go.Proofs.Ytpeeacdnjbcmiaa
