/- attestref17.Scale -/
import Derived.Test.YtpeeacdnjbcmiaaPRef17
namespace Go.Proofs.Ytpeeacdnjbcmiaa
open Go.RowKit Go.Att

/-- Two new blocks hold x and y, whose lists are new too. -/
def TwoP (e t : TypeId) (w0 w : World) (B C : Nat) (n d n' d' : Value) (x y : Rat) : Prop := Ext w0 w ∧ Box3 w B (.bool (decide (x.num < 0))) n d ∧ Box3 w C (.bool (decide (y.num < 0))) n' d' ∧
  OwnP e w0.heap.size w (.agg #[.bool (decide (x.num < 0)), n, d]) x ∧ OwnP e w0.heap.size w (.agg #[.bool (decide (y.num < 0)), n', d']) y ∧ B ≠ C ∧ Rt w B 3 t ∧ Rt w C 3 t ∧ w0.heap.size ≤ B ∧ w0.heap.size ≤ C
theorem TwoP.put {e t : TypeId} {w0 w : World} {B C : Nat} {n d n' d' : Value} {x y : Rat} (hne : e ≠ t) (hX : Ext w0 w) (rB : Rt w B 3 t) (rC : Rt w C 3 t) (sB : w0.heap.size ≤ B) (sC : w0.heap.size ≤ C) (hBC : B ≠ C)
    (p : OwnP e w0.heap.size w (.agg #[.bool (decide (x.num < 0)), n, d]) x) (q : OwnP e w0.heap.size w (.agg #[.bool (decide (y.num < 0)), n', d']) y) :
    TwoP e t w0 (put3 (put3 w B (.bool (decide (x.num < 0))) n d) C (.bool (decide (y.num < 0))) n' d') B C n d n' d' x y := by
  have r1 := rC.putL (Ne.symm hBC) 0 [.bool (decide (x.num < 0)), n, d]
  have r0 := (rB.putL_at [.bool (decide (x.num < 0)), n, d] rfl).2.putL hBC 0 [.bool (decide (y.num < 0)), n', d']
  refine ⟨put3_below (put3_below hX sB _ _ _) sC _ _ _, ((rB.putL_at [_, _, _] rfl).1.put3 hBC _ _ _).c3, (r1.putL_at [_, _, _] rfl).1.c3, ?_, ?_, hBC, r0, (r1.putL_at [_, _, _] rfl).2, sB, sC⟩
  · exact (p.putT rB hne 0 [_, _, _]).putT r1 hne 0 [_, _, _]
  · exact (q.putT rB hne 0 [_, _, _]).putT r1 hne 0 [_, _, _]
theorem mx_alt {x y : Rat} (h : ¬ 0 < (x - y).num.sign) : y = mx x y := by
  unfold mx
  by_cases h2 : 0 ≤ (x - y).num.sign
  · rw [if_pos h2]; exact (sign_zero (by omega)).symm
  · rw [if_neg h2]

set_option maxHeartbeats 4000000 in
set_option linter.unusedSimpArgs false in
theorem r17scale_any {w : World} {va vb : Value} {r a b : Rat} (hp : RdP w va r) (hq : RdE w vb a b) (sr : Sb 50000 r) (sa : Sb 50000 a) (sb : Sb 50000 b) (sx : Sb 50000 (r * a)) (sy : Sb 50000 (r * b)) :
    Calls Try.prog 41 #[va, vb] w (Gives w fun v' w' => OwnE 4 w.heap.size w' v' (mn (r * a) (r * b)) (mx (r * a) (r * b))) := by
  refine via fun R hR => ?_
  have SA := Lib.hid sa
  have SB := Lib.hid sb
  have SR := Lib.hid sr
  generalize hx : r * a = x at *
  generalize hy : r * b = y at *
  have SX := Lib.hid sx
  have SY := Lib.hid sy
  have HX := Lib.hid hx
  have HY := Lib.hid hy
  have HA := Lib.hid hp
  obtain ⟨x1, x2, rfl, -, -⟩ := hp
  obtain ⟨y0, y1, y2, y3, y4, y5, rfl, h3, h4⟩ := hq
  have HC := Lib.hid h3
  have HD := Lib.hid h4
  obtain ⟨w1, hw1, b1, c1, c2, -, -, -, r3, -⟩ := bx3 w [.bool (decide (r.num < 0)), x1, x2] [y0, y1, y2, y3, y4, y5] [.bool false, .slice none 0 0, .slice none 0 0, .bool false, .slice none 0 0, .slice none 0 0] 33 69 69
  have C1 := Lib.hid c1
  have C2 := Lib.hid c2
  have RR : Hid (Rm w1 (w.heap.size + 1 + 1) 6) := r3
  have SZ := Lib.hid RR.out.lt
  have HW := Lib.hid hw1
  clear h3 h4 sr sa sb sx sy c1 c2 r3 hw1 hx hy
  go_enter Try.func41, Try.ntmps41
  go_upto_region 1 with (fail)
  rw [← HW.out]
  clear HW
  go_cut [5, 6] (fun s5 s6 wx => ∃ (B C : Nat) (n d n' d' : Value), s5 = .pointer (some ⟨B, 0, none⟩) ∧ s6 = .pointer (some ⟨C, 0, none⟩) ∧ Hid (w.heap.size + 1 + 1 ≠ B) ∧ Hid (w.heap.size + 1 + 1 ≠ C) ∧ Hid (TwoP 4 33 w1 wx B C n d n' d' x y))
  case first =>
    refine wp_region_noPanic ?_
    refine region_cap fun O Q9 hO hQ => ?_
    have L2_8_9 : ∀ (wv : World) (v3 v7 : Value) (B8 B9 : Nat), Hid (Ext w1 wv) → Hid (OwnP 4 w1.heap.size wv v3 x) → Hid (OwnP 4 w1.heap.size wv v7 y) → Hid (Rt wv B8 3 33) → Hid (w1.heap.size ≤ B8) → Hid (Rt wv B9 3 33) → Hid (w1.heap.size ≤ B9) → Hid (B8 ≠ B9) → wpAnyH Try.prog .any O Q9 (fun w' => (w'.cell? ⟨w.heap.size, 0, none⟩ = some (.bool (decide (r.num < 0))) ∧ w'.cell? ⟨w.heap.size, 1, none⟩ = some (x1) ∧ w'.cell? ⟨w.heap.size, 2, none⟩ = some (x2)) ∧ (w'.cell? ⟨w.heap.size + 1, 0, none⟩ = some (y0) ∧ w'.cell? ⟨w.heap.size + 1, 1, none⟩ = some (y1) ∧ w'.cell? ⟨w.heap.size + 1, 2, none⟩ = some (y2) ∧ w'.cell? ⟨w.heap.size + 1, 3, none⟩ = some (y3) ∧ w'.cell? ⟨w.heap.size + 1, 4, none⟩ = some (y4) ∧ w'.cell? ⟨w.heap.size + 1, 5, none⟩ = some (y5))) 2 #[true, true, true, true, true, true, true, true, true, true, false, false] ⟨#[.agg #[.bool (decide (r.num < 0)), x1, x2], .agg #[y0, y1, y2, y3, y4, y5], .pointer (some ⟨w.heap.size, 0, none⟩), .pointer (some ⟨w.heap.size + 1, 0, none⟩), .pointer (some ⟨w.heap.size + 1 + 1, 0, none⟩), .pointer (some ⟨B8, 0, none⟩), .pointer (some ⟨B9, 0, none⟩), .agg #[.bool (decide (r.num < 0)), x1, x2], .pointer (some ⟨w.heap.size + 1, 0, none⟩), .agg #[y0, y1, y2], v3, .agg #[.bool (decide (r.num < 0)), x1, x2], .pointer (some ⟨w.heap.size + 1, 3, none⟩), .agg #[y3, y4, y5], v7, undef, undef, undef, undef, undef, undef, undef, undef, undef], []⟩ wv := by
      intro wv v3 v7 B8 B9 hX p3 p7 r8 s8 r9 s9 ne8_9
      have hO1 := hO.out
      have hQ1 := hQ.out
      subst hO1
      subst hQ1
      have XE := hX.out
      have hHeld : (fun w' => (w'.cell? ⟨w.heap.size, 0, none⟩ = some (.bool (decide (r.num < 0))) ∧ w'.cell? ⟨w.heap.size, 1, none⟩ = some (x1) ∧ w'.cell? ⟨w.heap.size, 2, none⟩ = some (x2)) ∧ (w'.cell? ⟨w.heap.size + 1, 0, none⟩ = some (y0) ∧ w'.cell? ⟨w.heap.size + 1, 1, none⟩ = some (y1) ∧ w'.cell? ⟨w.heap.size + 1, 2, none⟩ = some (y2) ∧ w'.cell? ⟨w.heap.size + 1, 3, none⟩ = some (y3) ∧ w'.cell? ⟨w.heap.size + 1, 4, none⟩ = some (y4) ∧ w'.cell? ⟨w.heap.size + 1, 5, none⟩ = some (y5))) wv := ⟨(C1.out.ext XE).c3, (C2.out.ext XE).c6⟩
      obtain ⟨n3, d3, rfl, on3, od3⟩ := p3.out
      obtain ⟨n7, d7, rfl, on7, od7⟩ := p7.out
      obtain ⟨a3, c3, rfl, -, -, -, -⟩ := on3.rd.shape
      obtain ⟨a3', c3', rfl, -, -, -, -⟩ := od3.rd.shape
      obtain ⟨a7, c7, rfl, -, -, -, -⟩ := on7.rd.shape
      obtain ⟨a7', c7', rfl, -, -, -, -⟩ := od7.rd.shape
      obtain ⟨_, _, _, i0, i1, i2, f0, f1, f2⟩ := r8.out.rm.room3.cells
      obtain ⟨_, _, _, j0, j1, j2, g0, g1, g2⟩ := r9.out.rm.room3.cells
      have hne := ne8_9.out
      have hne' := Ne.symm hne
      refine wpAnyH_ready (rs := [10]) (by kernel_rfl) (by simp) ?_
      refine AllReadyH.cons (o := _) rfl (fun K hK => ?_) AllReadyH.nil
      go_simp
      refine hK.out _ _ (⟨((C1.out.ext XE).put3 (by have := s8.out; have := SZ.out; omega) _ _ _).c3, ((C2.out.ext XE).put3 (by have := s8.out; have := SZ.out; omega) _ _ _).c6⟩) (fun hHeld => ?_)
      clear hK K
      try simp only [Act.put, List.getElem_toArray, List.getElem_cons_succ, List.getElem_cons_zero, List.setIfInBounds_toArray, List.set_cons_zero, List.set_cons_succ]
      refine wpAnyH_ready (rs := [11]) (by kernel_rfl) (by simp) ?_
      refine AllReadyH.cons (o := _) rfl (fun K hK => ?_) AllReadyH.nil
      go_simp
      refine hK.out _ _ (⟨(((C1.out.ext XE).put3 (by have := s8.out; have := SZ.out; omega) _ _ _).put3 (by have := s9.out; have := SZ.out; omega) _ _ _).c3, (((C2.out.ext XE).put3 (by have := s8.out; have := SZ.out; omega) _ _ _).put3 (by have := s9.out; have := SZ.out; omega) _ _ _).c6⟩) (fun hHeld => ?_)
      clear hK K
      try simp only [Act.put, List.getElem_toArray, List.getElem_cons_succ, List.getElem_cons_zero, List.setIfInBounds_toArray, List.set_cons_zero, List.set_cons_succ]
      refine wpAnyH_done (by kernel_rfl) ?_ _
      refine NoPanic.normal ?_
      go_wp2_with fail
      go_meet
      exact ⟨_, _, _, _, _, _, rfl, rfl, (by show _ ≠ _; have := s8.out; have := SZ.out; omega), (by show _ ≠ _; have := s9.out; have := SZ.out; omega), TwoP.put (by decide) hX.out r8.out r9.out s8.out s9.out ne8_9.out ⟨_, _, rfl, on3, od3⟩ ⟨_, _, rfl, on7, od7⟩⟩
    have L1_8_9 : ∀ (wv : World) (v3 : Value) (B8 B9 : Nat), Hid (Ext w1 wv) → Hid (OwnP 4 w1.heap.size wv v3 x) → Hid (Rt wv B8 3 33) → Hid (w1.heap.size ≤ B8) → Hid (Rt wv B9 3 33) → Hid (w1.heap.size ≤ B9) → Hid (B8 ≠ B9) → wpAnyH Try.prog .any O Q9 (fun w' => (w'.cell? ⟨w.heap.size, 0, none⟩ = some (.bool (decide (r.num < 0))) ∧ w'.cell? ⟨w.heap.size, 1, none⟩ = some (x1) ∧ w'.cell? ⟨w.heap.size, 2, none⟩ = some (x2)) ∧ (w'.cell? ⟨w.heap.size + 1, 0, none⟩ = some (y0) ∧ w'.cell? ⟨w.heap.size + 1, 1, none⟩ = some (y1) ∧ w'.cell? ⟨w.heap.size + 1, 2, none⟩ = some (y2) ∧ w'.cell? ⟨w.heap.size + 1, 3, none⟩ = some (y3) ∧ w'.cell? ⟨w.heap.size + 1, 4, none⟩ = some (y4) ∧ w'.cell? ⟨w.heap.size + 1, 5, none⟩ = some (y5))) 3 #[true, true, true, true, true, true, true, false, true, true, false, false] ⟨#[.agg #[.bool (decide (r.num < 0)), x1, x2], .agg #[y0, y1, y2, y3, y4, y5], .pointer (some ⟨w.heap.size, 0, none⟩), .pointer (some ⟨w.heap.size + 1, 0, none⟩), .pointer (some ⟨w.heap.size + 1 + 1, 0, none⟩), .pointer (some ⟨B8, 0, none⟩), .pointer (some ⟨B9, 0, none⟩), .agg #[.bool (decide (r.num < 0)), x1, x2], .pointer (some ⟨w.heap.size + 1, 0, none⟩), .agg #[y0, y1, y2], v3, .agg #[.bool (decide (r.num < 0)), x1, x2], .pointer (some ⟨w.heap.size + 1, 3, none⟩), .agg #[y3, y4, y5], undef, undef, undef, undef, undef, undef, undef, undef, undef, undef], []⟩ wv := by
      intro wv v3 B8 B9 hX p3 r8 s8 r9 s9 ne8_9
      have hO1 := hO.out
      have hQ1 := hQ.out
      subst hO1
      subst hQ1
      have XE := hX.out
      have hHeld : (fun w' => (w'.cell? ⟨w.heap.size, 0, none⟩ = some (.bool (decide (r.num < 0))) ∧ w'.cell? ⟨w.heap.size, 1, none⟩ = some (x1) ∧ w'.cell? ⟨w.heap.size, 2, none⟩ = some (x2)) ∧ (w'.cell? ⟨w.heap.size + 1, 0, none⟩ = some (y0) ∧ w'.cell? ⟨w.heap.size + 1, 1, none⟩ = some (y1) ∧ w'.cell? ⟨w.heap.size + 1, 2, none⟩ = some (y2) ∧ w'.cell? ⟨w.heap.size + 1, 3, none⟩ = some (y3) ∧ w'.cell? ⟨w.heap.size + 1, 4, none⟩ = some (y4) ∧ w'.cell? ⟨w.heap.size + 1, 5, none⟩ = some (y5))) wv := ⟨(C1.out.ext XE).c3, (C2.out.ext XE).c6⟩
      refine wpAnyH_ready (rs := [7]) (by kernel_rfl) (by simp) ?_
      refine AllReadyH.cons (o := _) rfl (fun K hK => ?_) AllReadyH.nil
      · skip
        go_simp
        go_at_call 25
        refine (HY.out ▸ r5mul_any (HA.out.ext (Ext.trans b1 XE)) (HD.out.ext (Ext.trans b1 XE)) SR.out SB.out).mono ?_
        rintro e wn ⟨vn, rfl, bn, on⟩
        go_wp2_with fail
        refine hK.out _ _ (⟨(C1.out.ext (Ext.trans XE bn)).c3, (C2.out.ext (Ext.trans XE bn)).c6⟩) (fun _ => ?_)
        clear hK K
        try simp only [Act.put, List.getElem_toArray, List.getElem_cons_succ, List.getElem_cons_zero, List.setIfInBounds_toArray, List.set_cons_zero, List.set_cons_succ]
        exact wpAnyH_to (L2_8_9 wn v3 vn B8 B9 (Ext.trans XE bn) (p3.out.ext bn) (on.mono (Below.size XE)) (r8.out.ext bn) s8 (r9.out.ext bn) s9 ne8_9) (by kernel_rfl) (by kernel_rfl) rfl rfl
    have L2_8 : ∀ (wv : World) (v3 v7 : Value) (B8 : Nat), Hid (Ext w1 wv) → Hid (OwnP 4 w1.heap.size wv v3 x) → Hid (OwnP 4 w1.heap.size wv v7 y) → Hid (Rt wv B8 3 33) → Hid (w1.heap.size ≤ B8) → wpAnyH Try.prog .any O Q9 (fun w' => (w'.cell? ⟨w.heap.size, 0, none⟩ = some (.bool (decide (r.num < 0))) ∧ w'.cell? ⟨w.heap.size, 1, none⟩ = some (x1) ∧ w'.cell? ⟨w.heap.size, 2, none⟩ = some (x2)) ∧ (w'.cell? ⟨w.heap.size + 1, 0, none⟩ = some (y0) ∧ w'.cell? ⟨w.heap.size + 1, 1, none⟩ = some (y1) ∧ w'.cell? ⟨w.heap.size + 1, 2, none⟩ = some (y2) ∧ w'.cell? ⟨w.heap.size + 1, 3, none⟩ = some (y3) ∧ w'.cell? ⟨w.heap.size + 1, 4, none⟩ = some (y4) ∧ w'.cell? ⟨w.heap.size + 1, 5, none⟩ = some (y5))) 3 #[true, true, true, true, true, true, true, true, true, false, false, false] ⟨#[.agg #[.bool (decide (r.num < 0)), x1, x2], .agg #[y0, y1, y2, y3, y4, y5], .pointer (some ⟨w.heap.size, 0, none⟩), .pointer (some ⟨w.heap.size + 1, 0, none⟩), .pointer (some ⟨w.heap.size + 1 + 1, 0, none⟩), .pointer (some ⟨B8, 0, none⟩), undef, .agg #[.bool (decide (r.num < 0)), x1, x2], .pointer (some ⟨w.heap.size + 1, 0, none⟩), .agg #[y0, y1, y2], v3, .agg #[.bool (decide (r.num < 0)), x1, x2], .pointer (some ⟨w.heap.size + 1, 3, none⟩), .agg #[y3, y4, y5], v7, undef, undef, undef, undef, undef, undef, undef, undef, undef], []⟩ wv := by
      intro wv v3 v7 B8 hX p3 p7 r8 s8
      have hO1 := hO.out
      have hQ1 := hQ.out
      subst hO1
      subst hQ1
      have XE := hX.out
      have hHeld : (fun w' => (w'.cell? ⟨w.heap.size, 0, none⟩ = some (.bool (decide (r.num < 0))) ∧ w'.cell? ⟨w.heap.size, 1, none⟩ = some (x1) ∧ w'.cell? ⟨w.heap.size, 2, none⟩ = some (x2)) ∧ (w'.cell? ⟨w.heap.size + 1, 0, none⟩ = some (y0) ∧ w'.cell? ⟨w.heap.size + 1, 1, none⟩ = some (y1) ∧ w'.cell? ⟨w.heap.size + 1, 2, none⟩ = some (y2) ∧ w'.cell? ⟨w.heap.size + 1, 3, none⟩ = some (y3) ∧ w'.cell? ⟨w.heap.size + 1, 4, none⟩ = some (y4) ∧ w'.cell? ⟨w.heap.size + 1, 5, none⟩ = some (y5))) wv := ⟨(C1.out.ext XE).c3, (C2.out.ext XE).c6⟩
      refine wpAnyH_ready (rs := [9]) (by kernel_rfl) (by simp) ?_
      refine AllReadyH.cons (o := _) rfl (fun K hK => ?_) AllReadyH.nil
      · skip
        go_simp
        refine hK.out _ _ (⟨(C1.out.ext (Ext.trans XE (Ext.alloc wv (.cells [.bool false, .slice none 0 0, .slice none 0 0].toArray 33)))).c3, (C2.out.ext (Ext.trans XE (Ext.alloc wv (.cells [.bool false, .slice none 0 0, .slice none 0 0].toArray 33)))).c6⟩) (fun _ => ?_)
        clear hK K
        try simp only [Act.put, List.getElem_toArray, List.getElem_cons_succ, List.getElem_cons_zero, List.setIfInBounds_toArray, List.set_cons_zero, List.set_cons_succ]
        exact wpAnyH_to (L2_8_9 _ v3 v7 B8 wv.heap.size (Ext.trans XE (Ext.alloc wv (.cells [.bool false, .slice none 0 0, .slice none 0 0].toArray 33))) (p3.out.ext (Ext.alloc wv (.cells [.bool false, .slice none 0 0, .slice none 0 0].toArray 33))) (p7.out.ext (Ext.alloc wv (.cells [.bool false, .slice none 0 0, .slice none 0 0].toArray 33))) (r8.out.ext (Ext.alloc wv (.cells [.bool false, .slice none 0 0, .slice none 0 0].toArray 33))) s8 (Rt.new wv [.bool false, .slice none 0 0, .slice none 0 0] 33) (Below.size XE) (Nat.ne_of_lt r8.out.lt)) (by kernel_rfl) (by kernel_rfl) rfl rfl
    have L2_9 : ∀ (wv : World) (v3 v7 : Value) (B9 : Nat), Hid (Ext w1 wv) → Hid (OwnP 4 w1.heap.size wv v3 x) → Hid (OwnP 4 w1.heap.size wv v7 y) → Hid (Rt wv B9 3 33) → Hid (w1.heap.size ≤ B9) → wpAnyH Try.prog .any O Q9 (fun w' => (w'.cell? ⟨w.heap.size, 0, none⟩ = some (.bool (decide (r.num < 0))) ∧ w'.cell? ⟨w.heap.size, 1, none⟩ = some (x1) ∧ w'.cell? ⟨w.heap.size, 2, none⟩ = some (x2)) ∧ (w'.cell? ⟨w.heap.size + 1, 0, none⟩ = some (y0) ∧ w'.cell? ⟨w.heap.size + 1, 1, none⟩ = some (y1) ∧ w'.cell? ⟨w.heap.size + 1, 2, none⟩ = some (y2) ∧ w'.cell? ⟨w.heap.size + 1, 3, none⟩ = some (y3) ∧ w'.cell? ⟨w.heap.size + 1, 4, none⟩ = some (y4) ∧ w'.cell? ⟨w.heap.size + 1, 5, none⟩ = some (y5))) 3 #[true, true, true, true, true, true, true, true, false, true, false, false] ⟨#[.agg #[.bool (decide (r.num < 0)), x1, x2], .agg #[y0, y1, y2, y3, y4, y5], .pointer (some ⟨w.heap.size, 0, none⟩), .pointer (some ⟨w.heap.size + 1, 0, none⟩), .pointer (some ⟨w.heap.size + 1 + 1, 0, none⟩), undef, .pointer (some ⟨B9, 0, none⟩), .agg #[.bool (decide (r.num < 0)), x1, x2], .pointer (some ⟨w.heap.size + 1, 0, none⟩), .agg #[y0, y1, y2], v3, .agg #[.bool (decide (r.num < 0)), x1, x2], .pointer (some ⟨w.heap.size + 1, 3, none⟩), .agg #[y3, y4, y5], v7, undef, undef, undef, undef, undef, undef, undef, undef, undef], []⟩ wv := by
      intro wv v3 v7 B9 hX p3 p7 r9 s9
      have hO1 := hO.out
      have hQ1 := hQ.out
      subst hO1
      subst hQ1
      have XE := hX.out
      have hHeld : (fun w' => (w'.cell? ⟨w.heap.size, 0, none⟩ = some (.bool (decide (r.num < 0))) ∧ w'.cell? ⟨w.heap.size, 1, none⟩ = some (x1) ∧ w'.cell? ⟨w.heap.size, 2, none⟩ = some (x2)) ∧ (w'.cell? ⟨w.heap.size + 1, 0, none⟩ = some (y0) ∧ w'.cell? ⟨w.heap.size + 1, 1, none⟩ = some (y1) ∧ w'.cell? ⟨w.heap.size + 1, 2, none⟩ = some (y2) ∧ w'.cell? ⟨w.heap.size + 1, 3, none⟩ = some (y3) ∧ w'.cell? ⟨w.heap.size + 1, 4, none⟩ = some (y4) ∧ w'.cell? ⟨w.heap.size + 1, 5, none⟩ = some (y5))) wv := ⟨(C1.out.ext XE).c3, (C2.out.ext XE).c6⟩
      refine wpAnyH_ready (rs := [8]) (by kernel_rfl) (by simp) ?_
      refine AllReadyH.cons (o := _) rfl (fun K hK => ?_) AllReadyH.nil
      · skip
        go_simp
        refine hK.out _ _ (⟨(C1.out.ext (Ext.trans XE (Ext.alloc wv (.cells [.bool false, .slice none 0 0, .slice none 0 0].toArray 33)))).c3, (C2.out.ext (Ext.trans XE (Ext.alloc wv (.cells [.bool false, .slice none 0 0, .slice none 0 0].toArray 33)))).c6⟩) (fun _ => ?_)
        clear hK K
        try simp only [Act.put, List.getElem_toArray, List.getElem_cons_succ, List.getElem_cons_zero, List.setIfInBounds_toArray, List.set_cons_zero, List.set_cons_succ]
        exact wpAnyH_to (L2_8_9 _ v3 v7 wv.heap.size B9 (Ext.trans XE (Ext.alloc wv (.cells [.bool false, .slice none 0 0, .slice none 0 0].toArray 33))) (p3.out.ext (Ext.alloc wv (.cells [.bool false, .slice none 0 0, .slice none 0 0].toArray 33))) (p7.out.ext (Ext.alloc wv (.cells [.bool false, .slice none 0 0, .slice none 0 0].toArray 33))) (Rt.new wv [.bool false, .slice none 0 0, .slice none 0 0] 33) (Below.size XE) (r9.out.ext (Ext.alloc wv (.cells [.bool false, .slice none 0 0, .slice none 0 0].toArray 33))) s9 (Nat.ne_of_gt r9.out.lt)) (by kernel_rfl) (by kernel_rfl) rfl rfl
    have L0_8_9 : ∀ (wv : World) (B8 B9 : Nat), Hid (Ext w1 wv) → Hid (Rt wv B8 3 33) → Hid (w1.heap.size ≤ B8) → Hid (Rt wv B9 3 33) → Hid (w1.heap.size ≤ B9) → Hid (B8 ≠ B9) → wpAnyH Try.prog .any O Q9 (fun w' => (w'.cell? ⟨w.heap.size, 0, none⟩ = some (.bool (decide (r.num < 0))) ∧ w'.cell? ⟨w.heap.size, 1, none⟩ = some (x1) ∧ w'.cell? ⟨w.heap.size, 2, none⟩ = some (x2)) ∧ (w'.cell? ⟨w.heap.size + 1, 0, none⟩ = some (y0) ∧ w'.cell? ⟨w.heap.size + 1, 1, none⟩ = some (y1) ∧ w'.cell? ⟨w.heap.size + 1, 2, none⟩ = some (y2) ∧ w'.cell? ⟨w.heap.size + 1, 3, none⟩ = some (y3) ∧ w'.cell? ⟨w.heap.size + 1, 4, none⟩ = some (y4) ∧ w'.cell? ⟨w.heap.size + 1, 5, none⟩ = some (y5))) 4 #[true, true, true, false, true, true, true, false, true, true, false, false] ⟨#[.agg #[.bool (decide (r.num < 0)), x1, x2], .agg #[y0, y1, y2, y3, y4, y5], .pointer (some ⟨w.heap.size, 0, none⟩), .pointer (some ⟨w.heap.size + 1, 0, none⟩), .pointer (some ⟨w.heap.size + 1 + 1, 0, none⟩), .pointer (some ⟨B8, 0, none⟩), .pointer (some ⟨B9, 0, none⟩), .agg #[.bool (decide (r.num < 0)), x1, x2], .pointer (some ⟨w.heap.size + 1, 0, none⟩), .agg #[y0, y1, y2], undef, .agg #[.bool (decide (r.num < 0)), x1, x2], .pointer (some ⟨w.heap.size + 1, 3, none⟩), .agg #[y3, y4, y5], undef, undef, undef, undef, undef, undef, undef, undef, undef, undef], []⟩ wv := by
      intro wv B8 B9 hX r8 s8 r9 s9 ne8_9
      have hO1 := hO.out
      have hQ1 := hQ.out
      subst hO1
      subst hQ1
      have XE := hX.out
      have hHeld : (fun w' => (w'.cell? ⟨w.heap.size, 0, none⟩ = some (.bool (decide (r.num < 0))) ∧ w'.cell? ⟨w.heap.size, 1, none⟩ = some (x1) ∧ w'.cell? ⟨w.heap.size, 2, none⟩ = some (x2)) ∧ (w'.cell? ⟨w.heap.size + 1, 0, none⟩ = some (y0) ∧ w'.cell? ⟨w.heap.size + 1, 1, none⟩ = some (y1) ∧ w'.cell? ⟨w.heap.size + 1, 2, none⟩ = some (y2) ∧ w'.cell? ⟨w.heap.size + 1, 3, none⟩ = some (y3) ∧ w'.cell? ⟨w.heap.size + 1, 4, none⟩ = some (y4) ∧ w'.cell? ⟨w.heap.size + 1, 5, none⟩ = some (y5))) wv := ⟨(C1.out.ext XE).c3, (C2.out.ext XE).c6⟩
      refine wpAnyH_ready (rs := [3]) (by kernel_rfl) (by simp) ?_
      refine AllReadyH.cons (o := _) rfl (fun K hK => ?_) AllReadyH.nil
      · skip
        go_simp
        go_at_call 25
        refine (HX.out ▸ r5mul_any (HA.out.ext (Ext.trans b1 XE)) (HC.out.ext (Ext.trans b1 XE)) SR.out SA.out).mono ?_
        rintro e wn ⟨vn, rfl, bn, on⟩
        go_wp2_with fail
        refine hK.out _ _ (⟨(C1.out.ext (Ext.trans XE bn)).c3, (C2.out.ext (Ext.trans XE bn)).c6⟩) (fun _ => ?_)
        clear hK K
        try simp only [Act.put, List.getElem_toArray, List.getElem_cons_succ, List.getElem_cons_zero, List.setIfInBounds_toArray, List.set_cons_zero, List.set_cons_succ]
        exact wpAnyH_to (L1_8_9 wn vn B8 B9 (Ext.trans XE bn) (on.mono (Below.size XE)) (r8.out.ext bn) s8 (r9.out.ext bn) s9 ne8_9) (by kernel_rfl) (by kernel_rfl) rfl rfl
    have L1_8 : ∀ (wv : World) (v3 : Value) (B8 : Nat), Hid (Ext w1 wv) → Hid (OwnP 4 w1.heap.size wv v3 x) → Hid (Rt wv B8 3 33) → Hid (w1.heap.size ≤ B8) → wpAnyH Try.prog .any O Q9 (fun w' => (w'.cell? ⟨w.heap.size, 0, none⟩ = some (.bool (decide (r.num < 0))) ∧ w'.cell? ⟨w.heap.size, 1, none⟩ = some (x1) ∧ w'.cell? ⟨w.heap.size, 2, none⟩ = some (x2)) ∧ (w'.cell? ⟨w.heap.size + 1, 0, none⟩ = some (y0) ∧ w'.cell? ⟨w.heap.size + 1, 1, none⟩ = some (y1) ∧ w'.cell? ⟨w.heap.size + 1, 2, none⟩ = some (y2) ∧ w'.cell? ⟨w.heap.size + 1, 3, none⟩ = some (y3) ∧ w'.cell? ⟨w.heap.size + 1, 4, none⟩ = some (y4) ∧ w'.cell? ⟨w.heap.size + 1, 5, none⟩ = some (y5))) 4 #[true, true, true, true, true, true, true, false, true, false, false, false] ⟨#[.agg #[.bool (decide (r.num < 0)), x1, x2], .agg #[y0, y1, y2, y3, y4, y5], .pointer (some ⟨w.heap.size, 0, none⟩), .pointer (some ⟨w.heap.size + 1, 0, none⟩), .pointer (some ⟨w.heap.size + 1 + 1, 0, none⟩), .pointer (some ⟨B8, 0, none⟩), undef, .agg #[.bool (decide (r.num < 0)), x1, x2], .pointer (some ⟨w.heap.size + 1, 0, none⟩), .agg #[y0, y1, y2], v3, .agg #[.bool (decide (r.num < 0)), x1, x2], .pointer (some ⟨w.heap.size + 1, 3, none⟩), .agg #[y3, y4, y5], undef, undef, undef, undef, undef, undef, undef, undef, undef, undef], []⟩ wv := by
      intro wv v3 B8 hX p3 r8 s8
      have hO1 := hO.out
      have hQ1 := hQ.out
      subst hO1
      subst hQ1
      have XE := hX.out
      have hHeld : (fun w' => (w'.cell? ⟨w.heap.size, 0, none⟩ = some (.bool (decide (r.num < 0))) ∧ w'.cell? ⟨w.heap.size, 1, none⟩ = some (x1) ∧ w'.cell? ⟨w.heap.size, 2, none⟩ = some (x2)) ∧ (w'.cell? ⟨w.heap.size + 1, 0, none⟩ = some (y0) ∧ w'.cell? ⟨w.heap.size + 1, 1, none⟩ = some (y1) ∧ w'.cell? ⟨w.heap.size + 1, 2, none⟩ = some (y2) ∧ w'.cell? ⟨w.heap.size + 1, 3, none⟩ = some (y3) ∧ w'.cell? ⟨w.heap.size + 1, 4, none⟩ = some (y4) ∧ w'.cell? ⟨w.heap.size + 1, 5, none⟩ = some (y5))) wv := ⟨(C1.out.ext XE).c3, (C2.out.ext XE).c6⟩
      refine wpAnyH_ready (rs := [7, 9]) (by kernel_rfl) (by simp) ?_
      refine AllReadyH.cons (o := _) rfl (fun K hK => ?_) (AllReadyH.cons (o := _) rfl (fun K hK => ?_) AllReadyH.nil)
      · skip
        go_simp
        go_at_call 25
        refine (HY.out ▸ r5mul_any (HA.out.ext (Ext.trans b1 XE)) (HD.out.ext (Ext.trans b1 XE)) SR.out SB.out).mono ?_
        rintro e wn ⟨vn, rfl, bn, on⟩
        go_wp2_with fail
        refine hK.out _ _ (⟨(C1.out.ext (Ext.trans XE bn)).c3, (C2.out.ext (Ext.trans XE bn)).c6⟩) (fun _ => ?_)
        clear hK K
        try simp only [Act.put, List.getElem_toArray, List.getElem_cons_succ, List.getElem_cons_zero, List.setIfInBounds_toArray, List.set_cons_zero, List.set_cons_succ]
        exact wpAnyH_to (L2_8 wn v3 vn B8 (Ext.trans XE bn) (p3.out.ext bn) (on.mono (Below.size XE)) (r8.out.ext bn) s8) (by kernel_rfl) (by kernel_rfl) rfl rfl
      · skip
        go_simp
        refine hK.out _ _ (⟨(C1.out.ext (Ext.trans XE (Ext.alloc wv (.cells [.bool false, .slice none 0 0, .slice none 0 0].toArray 33)))).c3, (C2.out.ext (Ext.trans XE (Ext.alloc wv (.cells [.bool false, .slice none 0 0, .slice none 0 0].toArray 33)))).c6⟩) (fun _ => ?_)
        clear hK K
        try simp only [Act.put, List.getElem_toArray, List.getElem_cons_succ, List.getElem_cons_zero, List.setIfInBounds_toArray, List.set_cons_zero, List.set_cons_succ]
        exact wpAnyH_to (L1_8_9 _ v3 B8 wv.heap.size (Ext.trans XE (Ext.alloc wv (.cells [.bool false, .slice none 0 0, .slice none 0 0].toArray 33))) (p3.out.ext (Ext.alloc wv (.cells [.bool false, .slice none 0 0, .slice none 0 0].toArray 33))) (r8.out.ext (Ext.alloc wv (.cells [.bool false, .slice none 0 0, .slice none 0 0].toArray 33))) s8 (Rt.new wv [.bool false, .slice none 0 0, .slice none 0 0] 33) (Below.size XE) (Nat.ne_of_lt r8.out.lt)) (by kernel_rfl) (by kernel_rfl) rfl rfl
    have L1_9 : ∀ (wv : World) (v3 : Value) (B9 : Nat), Hid (Ext w1 wv) → Hid (OwnP 4 w1.heap.size wv v3 x) → Hid (Rt wv B9 3 33) → Hid (w1.heap.size ≤ B9) → wpAnyH Try.prog .any O Q9 (fun w' => (w'.cell? ⟨w.heap.size, 0, none⟩ = some (.bool (decide (r.num < 0))) ∧ w'.cell? ⟨w.heap.size, 1, none⟩ = some (x1) ∧ w'.cell? ⟨w.heap.size, 2, none⟩ = some (x2)) ∧ (w'.cell? ⟨w.heap.size + 1, 0, none⟩ = some (y0) ∧ w'.cell? ⟨w.heap.size + 1, 1, none⟩ = some (y1) ∧ w'.cell? ⟨w.heap.size + 1, 2, none⟩ = some (y2) ∧ w'.cell? ⟨w.heap.size + 1, 3, none⟩ = some (y3) ∧ w'.cell? ⟨w.heap.size + 1, 4, none⟩ = some (y4) ∧ w'.cell? ⟨w.heap.size + 1, 5, none⟩ = some (y5))) 4 #[true, true, true, true, true, true, true, false, false, true, false, false] ⟨#[.agg #[.bool (decide (r.num < 0)), x1, x2], .agg #[y0, y1, y2, y3, y4, y5], .pointer (some ⟨w.heap.size, 0, none⟩), .pointer (some ⟨w.heap.size + 1, 0, none⟩), .pointer (some ⟨w.heap.size + 1 + 1, 0, none⟩), undef, .pointer (some ⟨B9, 0, none⟩), .agg #[.bool (decide (r.num < 0)), x1, x2], .pointer (some ⟨w.heap.size + 1, 0, none⟩), .agg #[y0, y1, y2], v3, .agg #[.bool (decide (r.num < 0)), x1, x2], .pointer (some ⟨w.heap.size + 1, 3, none⟩), .agg #[y3, y4, y5], undef, undef, undef, undef, undef, undef, undef, undef, undef, undef], []⟩ wv := by
      intro wv v3 B9 hX p3 r9 s9
      have hO1 := hO.out
      have hQ1 := hQ.out
      subst hO1
      subst hQ1
      have XE := hX.out
      have hHeld : (fun w' => (w'.cell? ⟨w.heap.size, 0, none⟩ = some (.bool (decide (r.num < 0))) ∧ w'.cell? ⟨w.heap.size, 1, none⟩ = some (x1) ∧ w'.cell? ⟨w.heap.size, 2, none⟩ = some (x2)) ∧ (w'.cell? ⟨w.heap.size + 1, 0, none⟩ = some (y0) ∧ w'.cell? ⟨w.heap.size + 1, 1, none⟩ = some (y1) ∧ w'.cell? ⟨w.heap.size + 1, 2, none⟩ = some (y2) ∧ w'.cell? ⟨w.heap.size + 1, 3, none⟩ = some (y3) ∧ w'.cell? ⟨w.heap.size + 1, 4, none⟩ = some (y4) ∧ w'.cell? ⟨w.heap.size + 1, 5, none⟩ = some (y5))) wv := ⟨(C1.out.ext XE).c3, (C2.out.ext XE).c6⟩
      refine wpAnyH_ready (rs := [7, 8]) (by kernel_rfl) (by simp) ?_
      refine AllReadyH.cons (o := _) rfl (fun K hK => ?_) (AllReadyH.cons (o := _) rfl (fun K hK => ?_) AllReadyH.nil)
      · skip
        go_simp
        go_at_call 25
        refine (HY.out ▸ r5mul_any (HA.out.ext (Ext.trans b1 XE)) (HD.out.ext (Ext.trans b1 XE)) SR.out SB.out).mono ?_
        rintro e wn ⟨vn, rfl, bn, on⟩
        go_wp2_with fail
        refine hK.out _ _ (⟨(C1.out.ext (Ext.trans XE bn)).c3, (C2.out.ext (Ext.trans XE bn)).c6⟩) (fun _ => ?_)
        clear hK K
        try simp only [Act.put, List.getElem_toArray, List.getElem_cons_succ, List.getElem_cons_zero, List.setIfInBounds_toArray, List.set_cons_zero, List.set_cons_succ]
        exact wpAnyH_to (L2_9 wn v3 vn B9 (Ext.trans XE bn) (p3.out.ext bn) (on.mono (Below.size XE)) (r9.out.ext bn) s9) (by kernel_rfl) (by kernel_rfl) rfl rfl
      · skip
        go_simp
        refine hK.out _ _ (⟨(C1.out.ext (Ext.trans XE (Ext.alloc wv (.cells [.bool false, .slice none 0 0, .slice none 0 0].toArray 33)))).c3, (C2.out.ext (Ext.trans XE (Ext.alloc wv (.cells [.bool false, .slice none 0 0, .slice none 0 0].toArray 33)))).c6⟩) (fun _ => ?_)
        clear hK K
        try simp only [Act.put, List.getElem_toArray, List.getElem_cons_succ, List.getElem_cons_zero, List.setIfInBounds_toArray, List.set_cons_zero, List.set_cons_succ]
        exact wpAnyH_to (L1_8_9 _ v3 wv.heap.size B9 (Ext.trans XE (Ext.alloc wv (.cells [.bool false, .slice none 0 0, .slice none 0 0].toArray 33))) (p3.out.ext (Ext.alloc wv (.cells [.bool false, .slice none 0 0, .slice none 0 0].toArray 33))) (Rt.new wv [.bool false, .slice none 0 0, .slice none 0 0] 33) (Below.size XE) (r9.out.ext (Ext.alloc wv (.cells [.bool false, .slice none 0 0, .slice none 0 0].toArray 33))) s9 (Nat.ne_of_gt r9.out.lt)) (by kernel_rfl) (by kernel_rfl) rfl rfl
    have L2_ : ∀ (wv : World) (v3 v7 : Value), Hid (Ext w1 wv) → Hid (OwnP 4 w1.heap.size wv v3 x) → Hid (OwnP 4 w1.heap.size wv v7 y) → wpAnyH Try.prog .any O Q9 (fun w' => (w'.cell? ⟨w.heap.size, 0, none⟩ = some (.bool (decide (r.num < 0))) ∧ w'.cell? ⟨w.heap.size, 1, none⟩ = some (x1) ∧ w'.cell? ⟨w.heap.size, 2, none⟩ = some (x2)) ∧ (w'.cell? ⟨w.heap.size + 1, 0, none⟩ = some (y0) ∧ w'.cell? ⟨w.heap.size + 1, 1, none⟩ = some (y1) ∧ w'.cell? ⟨w.heap.size + 1, 2, none⟩ = some (y2) ∧ w'.cell? ⟨w.heap.size + 1, 3, none⟩ = some (y3) ∧ w'.cell? ⟨w.heap.size + 1, 4, none⟩ = some (y4) ∧ w'.cell? ⟨w.heap.size + 1, 5, none⟩ = some (y5))) 4 #[true, true, true, true, true, true, true, true, false, false, false, false] ⟨#[.agg #[.bool (decide (r.num < 0)), x1, x2], .agg #[y0, y1, y2, y3, y4, y5], .pointer (some ⟨w.heap.size, 0, none⟩), .pointer (some ⟨w.heap.size + 1, 0, none⟩), .pointer (some ⟨w.heap.size + 1 + 1, 0, none⟩), undef, undef, .agg #[.bool (decide (r.num < 0)), x1, x2], .pointer (some ⟨w.heap.size + 1, 0, none⟩), .agg #[y0, y1, y2], v3, .agg #[.bool (decide (r.num < 0)), x1, x2], .pointer (some ⟨w.heap.size + 1, 3, none⟩), .agg #[y3, y4, y5], v7, undef, undef, undef, undef, undef, undef, undef, undef, undef], []⟩ wv := by
      intro wv v3 v7 hX p3 p7
      have hO1 := hO.out
      have hQ1 := hQ.out
      subst hO1
      subst hQ1
      have XE := hX.out
      have hHeld : (fun w' => (w'.cell? ⟨w.heap.size, 0, none⟩ = some (.bool (decide (r.num < 0))) ∧ w'.cell? ⟨w.heap.size, 1, none⟩ = some (x1) ∧ w'.cell? ⟨w.heap.size, 2, none⟩ = some (x2)) ∧ (w'.cell? ⟨w.heap.size + 1, 0, none⟩ = some (y0) ∧ w'.cell? ⟨w.heap.size + 1, 1, none⟩ = some (y1) ∧ w'.cell? ⟨w.heap.size + 1, 2, none⟩ = some (y2) ∧ w'.cell? ⟨w.heap.size + 1, 3, none⟩ = some (y3) ∧ w'.cell? ⟨w.heap.size + 1, 4, none⟩ = some (y4) ∧ w'.cell? ⟨w.heap.size + 1, 5, none⟩ = some (y5))) wv := ⟨(C1.out.ext XE).c3, (C2.out.ext XE).c6⟩
      refine wpAnyH_ready (rs := [8, 9]) (by kernel_rfl) (by simp) ?_
      refine AllReadyH.cons (o := _) rfl (fun K hK => ?_) (AllReadyH.cons (o := _) rfl (fun K hK => ?_) AllReadyH.nil)
      · skip
        go_simp
        refine hK.out _ _ (⟨(C1.out.ext (Ext.trans XE (Ext.alloc wv (.cells [.bool false, .slice none 0 0, .slice none 0 0].toArray 33)))).c3, (C2.out.ext (Ext.trans XE (Ext.alloc wv (.cells [.bool false, .slice none 0 0, .slice none 0 0].toArray 33)))).c6⟩) (fun _ => ?_)
        clear hK K
        try simp only [Act.put, List.getElem_toArray, List.getElem_cons_succ, List.getElem_cons_zero, List.setIfInBounds_toArray, List.set_cons_zero, List.set_cons_succ]
        exact wpAnyH_to (L2_8 _ v3 v7 wv.heap.size (Ext.trans XE (Ext.alloc wv (.cells [.bool false, .slice none 0 0, .slice none 0 0].toArray 33))) (p3.out.ext (Ext.alloc wv (.cells [.bool false, .slice none 0 0, .slice none 0 0].toArray 33))) (p7.out.ext (Ext.alloc wv (.cells [.bool false, .slice none 0 0, .slice none 0 0].toArray 33))) (Rt.new wv [.bool false, .slice none 0 0, .slice none 0 0] 33) (Below.size XE)) (by kernel_rfl) (by kernel_rfl) rfl rfl
      · skip
        go_simp
        refine hK.out _ _ (⟨(C1.out.ext (Ext.trans XE (Ext.alloc wv (.cells [.bool false, .slice none 0 0, .slice none 0 0].toArray 33)))).c3, (C2.out.ext (Ext.trans XE (Ext.alloc wv (.cells [.bool false, .slice none 0 0, .slice none 0 0].toArray 33)))).c6⟩) (fun _ => ?_)
        clear hK K
        try simp only [Act.put, List.getElem_toArray, List.getElem_cons_succ, List.getElem_cons_zero, List.setIfInBounds_toArray, List.set_cons_zero, List.set_cons_succ]
        exact wpAnyH_to (L2_9 _ v3 v7 wv.heap.size (Ext.trans XE (Ext.alloc wv (.cells [.bool false, .slice none 0 0, .slice none 0 0].toArray 33))) (p3.out.ext (Ext.alloc wv (.cells [.bool false, .slice none 0 0, .slice none 0 0].toArray 33))) (p7.out.ext (Ext.alloc wv (.cells [.bool false, .slice none 0 0, .slice none 0 0].toArray 33))) (Rt.new wv [.bool false, .slice none 0 0, .slice none 0 0] 33) (Below.size XE)) (by kernel_rfl) (by kernel_rfl) rfl rfl
    have L0_8 : ∀ (wv : World) (B8 : Nat), Hid (Ext w1 wv) → Hid (Rt wv B8 3 33) → Hid (w1.heap.size ≤ B8) → wpAnyH Try.prog .any O Q9 (fun w' => (w'.cell? ⟨w.heap.size, 0, none⟩ = some (.bool (decide (r.num < 0))) ∧ w'.cell? ⟨w.heap.size, 1, none⟩ = some (x1) ∧ w'.cell? ⟨w.heap.size, 2, none⟩ = some (x2)) ∧ (w'.cell? ⟨w.heap.size + 1, 0, none⟩ = some (y0) ∧ w'.cell? ⟨w.heap.size + 1, 1, none⟩ = some (y1) ∧ w'.cell? ⟨w.heap.size + 1, 2, none⟩ = some (y2) ∧ w'.cell? ⟨w.heap.size + 1, 3, none⟩ = some (y3) ∧ w'.cell? ⟨w.heap.size + 1, 4, none⟩ = some (y4) ∧ w'.cell? ⟨w.heap.size + 1, 5, none⟩ = some (y5))) 5 #[true, true, true, false, true, true, true, false, true, false, false, false] ⟨#[.agg #[.bool (decide (r.num < 0)), x1, x2], .agg #[y0, y1, y2, y3, y4, y5], .pointer (some ⟨w.heap.size, 0, none⟩), .pointer (some ⟨w.heap.size + 1, 0, none⟩), .pointer (some ⟨w.heap.size + 1 + 1, 0, none⟩), .pointer (some ⟨B8, 0, none⟩), undef, .agg #[.bool (decide (r.num < 0)), x1, x2], .pointer (some ⟨w.heap.size + 1, 0, none⟩), .agg #[y0, y1, y2], undef, .agg #[.bool (decide (r.num < 0)), x1, x2], .pointer (some ⟨w.heap.size + 1, 3, none⟩), .agg #[y3, y4, y5], undef, undef, undef, undef, undef, undef, undef, undef, undef, undef], []⟩ wv := by
      intro wv B8 hX r8 s8
      have hO1 := hO.out
      have hQ1 := hQ.out
      subst hO1
      subst hQ1
      have XE := hX.out
      have hHeld : (fun w' => (w'.cell? ⟨w.heap.size, 0, none⟩ = some (.bool (decide (r.num < 0))) ∧ w'.cell? ⟨w.heap.size, 1, none⟩ = some (x1) ∧ w'.cell? ⟨w.heap.size, 2, none⟩ = some (x2)) ∧ (w'.cell? ⟨w.heap.size + 1, 0, none⟩ = some (y0) ∧ w'.cell? ⟨w.heap.size + 1, 1, none⟩ = some (y1) ∧ w'.cell? ⟨w.heap.size + 1, 2, none⟩ = some (y2) ∧ w'.cell? ⟨w.heap.size + 1, 3, none⟩ = some (y3) ∧ w'.cell? ⟨w.heap.size + 1, 4, none⟩ = some (y4) ∧ w'.cell? ⟨w.heap.size + 1, 5, none⟩ = some (y5))) wv := ⟨(C1.out.ext XE).c3, (C2.out.ext XE).c6⟩
      refine wpAnyH_ready (rs := [3, 9]) (by kernel_rfl) (by simp) ?_
      refine AllReadyH.cons (o := _) rfl (fun K hK => ?_) (AllReadyH.cons (o := _) rfl (fun K hK => ?_) AllReadyH.nil)
      · skip
        go_simp
        go_at_call 25
        refine (HX.out ▸ r5mul_any (HA.out.ext (Ext.trans b1 XE)) (HC.out.ext (Ext.trans b1 XE)) SR.out SA.out).mono ?_
        rintro e wn ⟨vn, rfl, bn, on⟩
        go_wp2_with fail
        refine hK.out _ _ (⟨(C1.out.ext (Ext.trans XE bn)).c3, (C2.out.ext (Ext.trans XE bn)).c6⟩) (fun _ => ?_)
        clear hK K
        try simp only [Act.put, List.getElem_toArray, List.getElem_cons_succ, List.getElem_cons_zero, List.setIfInBounds_toArray, List.set_cons_zero, List.set_cons_succ]
        exact wpAnyH_to (L1_8 wn vn B8 (Ext.trans XE bn) (on.mono (Below.size XE)) (r8.out.ext bn) s8) (by kernel_rfl) (by kernel_rfl) rfl rfl
      · skip
        go_simp
        refine hK.out _ _ (⟨(C1.out.ext (Ext.trans XE (Ext.alloc wv (.cells [.bool false, .slice none 0 0, .slice none 0 0].toArray 33)))).c3, (C2.out.ext (Ext.trans XE (Ext.alloc wv (.cells [.bool false, .slice none 0 0, .slice none 0 0].toArray 33)))).c6⟩) (fun _ => ?_)
        clear hK K
        try simp only [Act.put, List.getElem_toArray, List.getElem_cons_succ, List.getElem_cons_zero, List.setIfInBounds_toArray, List.set_cons_zero, List.set_cons_succ]
        exact wpAnyH_to (L0_8_9 _ B8 wv.heap.size (Ext.trans XE (Ext.alloc wv (.cells [.bool false, .slice none 0 0, .slice none 0 0].toArray 33))) (r8.out.ext (Ext.alloc wv (.cells [.bool false, .slice none 0 0, .slice none 0 0].toArray 33))) s8 (Rt.new wv [.bool false, .slice none 0 0, .slice none 0 0] 33) (Below.size XE) (Nat.ne_of_lt r8.out.lt)) (by kernel_rfl) (by kernel_rfl) rfl rfl
    have L0_9 : ∀ (wv : World) (B9 : Nat), Hid (Ext w1 wv) → Hid (Rt wv B9 3 33) → Hid (w1.heap.size ≤ B9) → wpAnyH Try.prog .any O Q9 (fun w' => (w'.cell? ⟨w.heap.size, 0, none⟩ = some (.bool (decide (r.num < 0))) ∧ w'.cell? ⟨w.heap.size, 1, none⟩ = some (x1) ∧ w'.cell? ⟨w.heap.size, 2, none⟩ = some (x2)) ∧ (w'.cell? ⟨w.heap.size + 1, 0, none⟩ = some (y0) ∧ w'.cell? ⟨w.heap.size + 1, 1, none⟩ = some (y1) ∧ w'.cell? ⟨w.heap.size + 1, 2, none⟩ = some (y2) ∧ w'.cell? ⟨w.heap.size + 1, 3, none⟩ = some (y3) ∧ w'.cell? ⟨w.heap.size + 1, 4, none⟩ = some (y4) ∧ w'.cell? ⟨w.heap.size + 1, 5, none⟩ = some (y5))) 5 #[true, true, true, false, true, true, true, false, false, true, false, false] ⟨#[.agg #[.bool (decide (r.num < 0)), x1, x2], .agg #[y0, y1, y2, y3, y4, y5], .pointer (some ⟨w.heap.size, 0, none⟩), .pointer (some ⟨w.heap.size + 1, 0, none⟩), .pointer (some ⟨w.heap.size + 1 + 1, 0, none⟩), undef, .pointer (some ⟨B9, 0, none⟩), .agg #[.bool (decide (r.num < 0)), x1, x2], .pointer (some ⟨w.heap.size + 1, 0, none⟩), .agg #[y0, y1, y2], undef, .agg #[.bool (decide (r.num < 0)), x1, x2], .pointer (some ⟨w.heap.size + 1, 3, none⟩), .agg #[y3, y4, y5], undef, undef, undef, undef, undef, undef, undef, undef, undef, undef], []⟩ wv := by
      intro wv B9 hX r9 s9
      have hO1 := hO.out
      have hQ1 := hQ.out
      subst hO1
      subst hQ1
      have XE := hX.out
      have hHeld : (fun w' => (w'.cell? ⟨w.heap.size, 0, none⟩ = some (.bool (decide (r.num < 0))) ∧ w'.cell? ⟨w.heap.size, 1, none⟩ = some (x1) ∧ w'.cell? ⟨w.heap.size, 2, none⟩ = some (x2)) ∧ (w'.cell? ⟨w.heap.size + 1, 0, none⟩ = some (y0) ∧ w'.cell? ⟨w.heap.size + 1, 1, none⟩ = some (y1) ∧ w'.cell? ⟨w.heap.size + 1, 2, none⟩ = some (y2) ∧ w'.cell? ⟨w.heap.size + 1, 3, none⟩ = some (y3) ∧ w'.cell? ⟨w.heap.size + 1, 4, none⟩ = some (y4) ∧ w'.cell? ⟨w.heap.size + 1, 5, none⟩ = some (y5))) wv := ⟨(C1.out.ext XE).c3, (C2.out.ext XE).c6⟩
      refine wpAnyH_ready (rs := [3, 8]) (by kernel_rfl) (by simp) ?_
      refine AllReadyH.cons (o := _) rfl (fun K hK => ?_) (AllReadyH.cons (o := _) rfl (fun K hK => ?_) AllReadyH.nil)
      · skip
        go_simp
        go_at_call 25
        refine (HX.out ▸ r5mul_any (HA.out.ext (Ext.trans b1 XE)) (HC.out.ext (Ext.trans b1 XE)) SR.out SA.out).mono ?_
        rintro e wn ⟨vn, rfl, bn, on⟩
        go_wp2_with fail
        refine hK.out _ _ (⟨(C1.out.ext (Ext.trans XE bn)).c3, (C2.out.ext (Ext.trans XE bn)).c6⟩) (fun _ => ?_)
        clear hK K
        try simp only [Act.put, List.getElem_toArray, List.getElem_cons_succ, List.getElem_cons_zero, List.setIfInBounds_toArray, List.set_cons_zero, List.set_cons_succ]
        exact wpAnyH_to (L1_9 wn vn B9 (Ext.trans XE bn) (on.mono (Below.size XE)) (r9.out.ext bn) s9) (by kernel_rfl) (by kernel_rfl) rfl rfl
      · skip
        go_simp
        refine hK.out _ _ (⟨(C1.out.ext (Ext.trans XE (Ext.alloc wv (.cells [.bool false, .slice none 0 0, .slice none 0 0].toArray 33)))).c3, (C2.out.ext (Ext.trans XE (Ext.alloc wv (.cells [.bool false, .slice none 0 0, .slice none 0 0].toArray 33)))).c6⟩) (fun _ => ?_)
        clear hK K
        try simp only [Act.put, List.getElem_toArray, List.getElem_cons_succ, List.getElem_cons_zero, List.setIfInBounds_toArray, List.set_cons_zero, List.set_cons_succ]
        exact wpAnyH_to (L0_8_9 _ wv.heap.size B9 (Ext.trans XE (Ext.alloc wv (.cells [.bool false, .slice none 0 0, .slice none 0 0].toArray 33))) (Rt.new wv [.bool false, .slice none 0 0, .slice none 0 0] 33) (Below.size XE) (r9.out.ext (Ext.alloc wv (.cells [.bool false, .slice none 0 0, .slice none 0 0].toArray 33))) s9 (Nat.ne_of_gt r9.out.lt)) (by kernel_rfl) (by kernel_rfl) rfl rfl
    have L1_ : ∀ (wv : World) (v3 : Value), Hid (Ext w1 wv) → Hid (OwnP 4 w1.heap.size wv v3 x) → wpAnyH Try.prog .any O Q9 (fun w' => (w'.cell? ⟨w.heap.size, 0, none⟩ = some (.bool (decide (r.num < 0))) ∧ w'.cell? ⟨w.heap.size, 1, none⟩ = some (x1) ∧ w'.cell? ⟨w.heap.size, 2, none⟩ = some (x2)) ∧ (w'.cell? ⟨w.heap.size + 1, 0, none⟩ = some (y0) ∧ w'.cell? ⟨w.heap.size + 1, 1, none⟩ = some (y1) ∧ w'.cell? ⟨w.heap.size + 1, 2, none⟩ = some (y2) ∧ w'.cell? ⟨w.heap.size + 1, 3, none⟩ = some (y3) ∧ w'.cell? ⟨w.heap.size + 1, 4, none⟩ = some (y4) ∧ w'.cell? ⟨w.heap.size + 1, 5, none⟩ = some (y5))) 5 #[true, true, true, true, true, true, true, false, false, false, false, false] ⟨#[.agg #[.bool (decide (r.num < 0)), x1, x2], .agg #[y0, y1, y2, y3, y4, y5], .pointer (some ⟨w.heap.size, 0, none⟩), .pointer (some ⟨w.heap.size + 1, 0, none⟩), .pointer (some ⟨w.heap.size + 1 + 1, 0, none⟩), undef, undef, .agg #[.bool (decide (r.num < 0)), x1, x2], .pointer (some ⟨w.heap.size + 1, 0, none⟩), .agg #[y0, y1, y2], v3, .agg #[.bool (decide (r.num < 0)), x1, x2], .pointer (some ⟨w.heap.size + 1, 3, none⟩), .agg #[y3, y4, y5], undef, undef, undef, undef, undef, undef, undef, undef, undef, undef], []⟩ wv := by
      intro wv v3 hX p3
      have hO1 := hO.out
      have hQ1 := hQ.out
      subst hO1
      subst hQ1
      have XE := hX.out
      have hHeld : (fun w' => (w'.cell? ⟨w.heap.size, 0, none⟩ = some (.bool (decide (r.num < 0))) ∧ w'.cell? ⟨w.heap.size, 1, none⟩ = some (x1) ∧ w'.cell? ⟨w.heap.size, 2, none⟩ = some (x2)) ∧ (w'.cell? ⟨w.heap.size + 1, 0, none⟩ = some (y0) ∧ w'.cell? ⟨w.heap.size + 1, 1, none⟩ = some (y1) ∧ w'.cell? ⟨w.heap.size + 1, 2, none⟩ = some (y2) ∧ w'.cell? ⟨w.heap.size + 1, 3, none⟩ = some (y3) ∧ w'.cell? ⟨w.heap.size + 1, 4, none⟩ = some (y4) ∧ w'.cell? ⟨w.heap.size + 1, 5, none⟩ = some (y5))) wv := ⟨(C1.out.ext XE).c3, (C2.out.ext XE).c6⟩
      refine wpAnyH_ready (rs := [7, 8, 9]) (by kernel_rfl) (by simp) ?_
      refine AllReadyH.cons (o := _) rfl (fun K hK => ?_) (AllReadyH.cons (o := _) rfl (fun K hK => ?_) (AllReadyH.cons (o := _) rfl (fun K hK => ?_) AllReadyH.nil))
      · skip
        go_simp
        go_at_call 25
        refine (HY.out ▸ r5mul_any (HA.out.ext (Ext.trans b1 XE)) (HD.out.ext (Ext.trans b1 XE)) SR.out SB.out).mono ?_
        rintro e wn ⟨vn, rfl, bn, on⟩
        go_wp2_with fail
        refine hK.out _ _ (⟨(C1.out.ext (Ext.trans XE bn)).c3, (C2.out.ext (Ext.trans XE bn)).c6⟩) (fun _ => ?_)
        clear hK K
        try simp only [Act.put, List.getElem_toArray, List.getElem_cons_succ, List.getElem_cons_zero, List.setIfInBounds_toArray, List.set_cons_zero, List.set_cons_succ]
        exact wpAnyH_to (L2_ wn v3 vn (Ext.trans XE bn) (p3.out.ext bn) (on.mono (Below.size XE))) (by kernel_rfl) (by kernel_rfl) rfl rfl
      · skip
        go_simp
        refine hK.out _ _ (⟨(C1.out.ext (Ext.trans XE (Ext.alloc wv (.cells [.bool false, .slice none 0 0, .slice none 0 0].toArray 33)))).c3, (C2.out.ext (Ext.trans XE (Ext.alloc wv (.cells [.bool false, .slice none 0 0, .slice none 0 0].toArray 33)))).c6⟩) (fun _ => ?_)
        clear hK K
        try simp only [Act.put, List.getElem_toArray, List.getElem_cons_succ, List.getElem_cons_zero, List.setIfInBounds_toArray, List.set_cons_zero, List.set_cons_succ]
        exact wpAnyH_to (L1_8 _ v3 wv.heap.size (Ext.trans XE (Ext.alloc wv (.cells [.bool false, .slice none 0 0, .slice none 0 0].toArray 33))) (p3.out.ext (Ext.alloc wv (.cells [.bool false, .slice none 0 0, .slice none 0 0].toArray 33))) (Rt.new wv [.bool false, .slice none 0 0, .slice none 0 0] 33) (Below.size XE)) (by kernel_rfl) (by kernel_rfl) rfl rfl
      · skip
        go_simp
        refine hK.out _ _ (⟨(C1.out.ext (Ext.trans XE (Ext.alloc wv (.cells [.bool false, .slice none 0 0, .slice none 0 0].toArray 33)))).c3, (C2.out.ext (Ext.trans XE (Ext.alloc wv (.cells [.bool false, .slice none 0 0, .slice none 0 0].toArray 33)))).c6⟩) (fun _ => ?_)
        clear hK K
        try simp only [Act.put, List.getElem_toArray, List.getElem_cons_succ, List.getElem_cons_zero, List.setIfInBounds_toArray, List.set_cons_zero, List.set_cons_succ]
        exact wpAnyH_to (L1_9 _ v3 wv.heap.size (Ext.trans XE (Ext.alloc wv (.cells [.bool false, .slice none 0 0, .slice none 0 0].toArray 33))) (p3.out.ext (Ext.alloc wv (.cells [.bool false, .slice none 0 0, .slice none 0 0].toArray 33))) (Rt.new wv [.bool false, .slice none 0 0, .slice none 0 0] 33) (Below.size XE)) (by kernel_rfl) (by kernel_rfl) rfl rfl
    have L0_ : ∀ (wv : World), Hid (Ext w1 wv) → wpAnyH Try.prog .any O Q9 (fun w' => (w'.cell? ⟨w.heap.size, 0, none⟩ = some (.bool (decide (r.num < 0))) ∧ w'.cell? ⟨w.heap.size, 1, none⟩ = some (x1) ∧ w'.cell? ⟨w.heap.size, 2, none⟩ = some (x2)) ∧ (w'.cell? ⟨w.heap.size + 1, 0, none⟩ = some (y0) ∧ w'.cell? ⟨w.heap.size + 1, 1, none⟩ = some (y1) ∧ w'.cell? ⟨w.heap.size + 1, 2, none⟩ = some (y2) ∧ w'.cell? ⟨w.heap.size + 1, 3, none⟩ = some (y3) ∧ w'.cell? ⟨w.heap.size + 1, 4, none⟩ = some (y4) ∧ w'.cell? ⟨w.heap.size + 1, 5, none⟩ = some (y5))) 6 #[true, true, true, false, true, true, true, false, false, false, false, false] ⟨#[.agg #[.bool (decide (r.num < 0)), x1, x2], .agg #[y0, y1, y2, y3, y4, y5], .pointer (some ⟨w.heap.size, 0, none⟩), .pointer (some ⟨w.heap.size + 1, 0, none⟩), .pointer (some ⟨w.heap.size + 1 + 1, 0, none⟩), undef, undef, .agg #[.bool (decide (r.num < 0)), x1, x2], .pointer (some ⟨w.heap.size + 1, 0, none⟩), .agg #[y0, y1, y2], undef, .agg #[.bool (decide (r.num < 0)), x1, x2], .pointer (some ⟨w.heap.size + 1, 3, none⟩), .agg #[y3, y4, y5], undef, undef, undef, undef, undef, undef, undef, undef, undef, undef], []⟩ wv := by
      intro wv hX
      have hO1 := hO.out
      have hQ1 := hQ.out
      subst hO1
      subst hQ1
      have XE := hX.out
      have hHeld : (fun w' => (w'.cell? ⟨w.heap.size, 0, none⟩ = some (.bool (decide (r.num < 0))) ∧ w'.cell? ⟨w.heap.size, 1, none⟩ = some (x1) ∧ w'.cell? ⟨w.heap.size, 2, none⟩ = some (x2)) ∧ (w'.cell? ⟨w.heap.size + 1, 0, none⟩ = some (y0) ∧ w'.cell? ⟨w.heap.size + 1, 1, none⟩ = some (y1) ∧ w'.cell? ⟨w.heap.size + 1, 2, none⟩ = some (y2) ∧ w'.cell? ⟨w.heap.size + 1, 3, none⟩ = some (y3) ∧ w'.cell? ⟨w.heap.size + 1, 4, none⟩ = some (y4) ∧ w'.cell? ⟨w.heap.size + 1, 5, none⟩ = some (y5))) wv := ⟨(C1.out.ext XE).c3, (C2.out.ext XE).c6⟩
      refine wpAnyH_ready (rs := [3, 8, 9]) (by kernel_rfl) (by simp) ?_
      refine AllReadyH.cons (o := _) rfl (fun K hK => ?_) (AllReadyH.cons (o := _) rfl (fun K hK => ?_) (AllReadyH.cons (o := _) rfl (fun K hK => ?_) AllReadyH.nil))
      · skip
        go_simp
        go_at_call 25
        refine (HX.out ▸ r5mul_any (HA.out.ext (Ext.trans b1 XE)) (HC.out.ext (Ext.trans b1 XE)) SR.out SA.out).mono ?_
        rintro e wn ⟨vn, rfl, bn, on⟩
        go_wp2_with fail
        refine hK.out _ _ (⟨(C1.out.ext (Ext.trans XE bn)).c3, (C2.out.ext (Ext.trans XE bn)).c6⟩) (fun _ => ?_)
        clear hK K
        try simp only [Act.put, List.getElem_toArray, List.getElem_cons_succ, List.getElem_cons_zero, List.setIfInBounds_toArray, List.set_cons_zero, List.set_cons_succ]
        exact wpAnyH_to (L1_ wn vn (Ext.trans XE bn) (on.mono (Below.size XE))) (by kernel_rfl) (by kernel_rfl) rfl rfl
      · skip
        go_simp
        refine hK.out _ _ (⟨(C1.out.ext (Ext.trans XE (Ext.alloc wv (.cells [.bool false, .slice none 0 0, .slice none 0 0].toArray 33)))).c3, (C2.out.ext (Ext.trans XE (Ext.alloc wv (.cells [.bool false, .slice none 0 0, .slice none 0 0].toArray 33)))).c6⟩) (fun _ => ?_)
        clear hK K
        try simp only [Act.put, List.getElem_toArray, List.getElem_cons_succ, List.getElem_cons_zero, List.setIfInBounds_toArray, List.set_cons_zero, List.set_cons_succ]
        exact wpAnyH_to (L0_8 _ wv.heap.size (Ext.trans XE (Ext.alloc wv (.cells [.bool false, .slice none 0 0, .slice none 0 0].toArray 33))) (Rt.new wv [.bool false, .slice none 0 0, .slice none 0 0] 33) (Below.size XE)) (by kernel_rfl) (by kernel_rfl) rfl rfl
      · skip
        go_simp
        refine hK.out _ _ (⟨(C1.out.ext (Ext.trans XE (Ext.alloc wv (.cells [.bool false, .slice none 0 0, .slice none 0 0].toArray 33)))).c3, (C2.out.ext (Ext.trans XE (Ext.alloc wv (.cells [.bool false, .slice none 0 0, .slice none 0 0].toArray 33)))).c6⟩) (fun _ => ?_)
        clear hK K
        try simp only [Act.put, List.getElem_toArray, List.getElem_cons_succ, List.getElem_cons_zero, List.setIfInBounds_toArray, List.set_cons_zero, List.set_cons_succ]
        exact wpAnyH_to (L0_9 _ wv.heap.size (Ext.trans XE (Ext.alloc wv (.cells [.bool false, .slice none 0 0, .slice none 0 0].toArray 33))) (Rt.new wv [.bool false, .slice none 0 0, .slice none 0 0] 33) (Below.size XE)) (by kernel_rfl) (by kernel_rfl) rfl rfl
    have hO1 := hO.out
    have hQ1 := hQ.out
    subst hO1
    subst hQ1
    refine wp_region_held_drew (S := fun w' => (w'.cell? ⟨w.heap.size, 0, none⟩ = some (.bool (decide (r.num < 0))) ∧ w'.cell? ⟨w.heap.size, 1, none⟩ = some (x1) ∧ w'.cell? ⟨w.heap.size, 2, none⟩ = some (x2)) ∧ (w'.cell? ⟨w.heap.size + 1, 0, none⟩ = some (y0) ∧ w'.cell? ⟨w.heap.size + 1, 1, none⟩ = some (y1) ∧ w'.cell? ⟨w.heap.size + 1, 2, none⟩ = some (y2) ∧ w'.cell? ⟨w.heap.size + 1, 3, none⟩ = some (y3) ∧ w'.cell? ⟨w.heap.size + 1, 4, none⟩ = some (y4) ∧ w'.cell? ⟨w.heap.size + 1, 5, none⟩ = some (y5))) (by kernel_rfl) (⟨(C1.out.ext (drew_ext w1)).c3, (C2.out.ext (drew_ext w1)).c6⟩) (fun hHeld => ?_)
    refine wpAnyH_take (i := 0) (v := ?_) rfl (by kernel_rfl) (by kernel_rfl) (by kernel_rfl) (fun _ _ _ h => h) (Or.inl ⟨by rfl, fun w0 hSw => ?_⟩) hHeld ?_
    rotate_left
    · (try dsimp only at hSw)
      go_simp
      try with_reducible rfl
    simp only [Act.put, List.getElem_toArray, List.getElem_cons_succ, List.getElem_cons_zero, List.setIfInBounds_toArray, List.set_cons_zero, List.set_cons_succ]
    refine wpAnyH_take (i := 1) (v := ?_) rfl (by kernel_rfl) (by kernel_rfl) (by kernel_rfl) (fun _ _ _ h => h) (Or.inl ⟨by rfl, fun w0 hSw => ?_⟩) hHeld ?_
    rotate_left
    · (try dsimp only at hSw)
      go_simp
      try with_reducible rfl
    simp only [Act.put, List.getElem_toArray, List.getElem_cons_succ, List.getElem_cons_zero, List.setIfInBounds_toArray, List.set_cons_zero, List.set_cons_succ]
    refine wpAnyH_take (i := 2) (v := ?_) rfl (by kernel_rfl) (by kernel_rfl) (by kernel_rfl) (fun _ _ _ h => h) (Or.inl ⟨by rfl, fun w0 hSw => ?_⟩) hHeld ?_
    rotate_left
    · (try dsimp only at hSw)
      go_simp
      try with_reducible rfl
    simp only [Act.put, List.getElem_toArray, List.getElem_cons_succ, List.getElem_cons_zero, List.setIfInBounds_toArray, List.set_cons_zero, List.set_cons_succ]
    refine wpAnyH_take (i := 4) (v := ?_) rfl (by kernel_rfl) (by kernel_rfl) (by kernel_rfl) (fun _ _ _ h => h) (Or.inl ⟨by rfl, fun w0 hSw => ?_⟩) hHeld ?_
    rotate_left
    · (try dsimp only at hSw)
      go_simp
      try with_reducible rfl
    simp only [Act.put, List.getElem_toArray, List.getElem_cons_succ, List.getElem_cons_zero, List.setIfInBounds_toArray, List.set_cons_zero, List.set_cons_succ]
    refine wpAnyH_take (i := 5) (v := ?_) rfl (by kernel_rfl) (by kernel_rfl) (by kernel_rfl) (fun _ _ _ h => h) (Or.inl ⟨by rfl, fun w0 hSw => ?_⟩) hHeld ?_
    rotate_left
    · (try dsimp only at hSw)
      go_simp
      try with_reducible rfl
    simp only [Act.put, List.getElem_toArray, List.getElem_cons_succ, List.getElem_cons_zero, List.setIfInBounds_toArray, List.set_cons_zero, List.set_cons_succ]
    refine wpAnyH_take (i := 6) (v := ?_) rfl (by kernel_rfl) (by kernel_rfl) (by kernel_rfl) (fun _ _ _ h => h) (Or.inl ⟨by rfl, fun w0 hSw => ?_⟩) hHeld ?_
    rotate_left
    · (try dsimp only at hSw)
      go_simp
      try with_reducible rfl
    simp only [Act.put, List.getElem_toArray, List.getElem_cons_succ, List.getElem_cons_zero, List.setIfInBounds_toArray, List.set_cons_zero, List.set_cons_succ]
    exact wpAnyH_to (L0_ w1.drew (drew_ext w1)) (by kernel_rfl) (by kernel_rfl) rfl rfl
  case rest =>
    obtain ⟨B, C, n, d, n', d', rfl, rfl, hB, hC, hT⟩ := hcut
    generalize wc = w2 at *
    obtain ⟨b2, k1, k2, ⟨n1, d1, he1, on, od⟩, ⟨n2, d2, he2, om, oc⟩, hBC, rB, rC, sB, sC⟩ := hT.out
    obtain ⟨rfl, rfl⟩ : n = n1 ∧ d = d1 := by simpa using he1
    obtain ⟨rfl, rfl⟩ : n' = n2 ∧ d' = d2 := by simpa using he2
    obtain ⟨an, cn, rfl, -, -, -, -⟩ := on.rd.shape
    obtain ⟨ad, cd, rfl, -, -, -, -⟩ := od.rd.shape
    obtain ⟨am, cm, rfl, -, -, -, -⟩ := om.rd.shape
    obtain ⟨ac, cc, rfl, -, -, -, -⟩ := oc.rd.shape
    have K1 := Lib.hid k1
    have K2 := Lib.hid k2
    have ON := Lib.hid on
    have OD := Lib.hid od
    have OM := Lib.hid om
    have OC := Lib.hid oc
    have RB := Lib.hid rB
    have RC := Lib.hid rC
    have HBC := Lib.hid hBC
    have SB8 := Lib.hid sB
    have SC9 := Lib.hid sC
    have QX : Hid (RdP w2 (.agg #[.bool (decide (x.num < 0)), .slice an (bitsOf x.num.natAbs).length cn, .slice ad (bitsOf x.den).length cd]) x) := ⟨_, _, rfl, on.rd, od.rd⟩
    have QY : Hid (RdP w2 (.agg #[.bool (decide (y.num < 0)), .slice am (bitsOf y.num.natAbs).length cm, .slice ac (bitsOf y.den).length cc]) y) := ⟨_, _, rfl, om.rd, oc.rd⟩
    clear hT he1 he2 on od om oc rB rC hBC sB sC C1 C2
    obtain ⟨k10, k11, k12⟩ := k1
    obtain ⟨k20, k21, k22⟩ := k2
    go_wp2_with fail
    clear k10 k11 k12 k20 k21 k22
    refine (r5cmp_any QX.out QY.out SX.out SY.out).mono ?_
    rintro e w3 ⟨_, rfl, b3, rfl⟩
    obtain ⟨k10, k11, k12⟩ := K1.out.ext b3
    obtain ⟨k20, k21, k22⟩ := K2.out.ext b3
    have e1 : 0 < (x - y).num.sign → mn x y = y := fun h => by unfold mn; rw [if_neg (by omega)]
    have e2 : 0 < (x - y).num.sign → mx x y = x := fun h => by unfold mx; rw [if_pos (by omega)]
    have e3 : ¬ 0 < (x - y).num.sign → mn x y = x := fun h => by unfold mn; rw [if_pos (by omega)]
    have e4 : ¬ 0 < (x - y).num.sign → y = mx x y := mx_alt
    generalize (x - y).num.sign = t at *
    by_cases h : 0 < t
    · rw [e1 h, e2 h] at hR
      have ht : decide (0 < t) = true := decide_eq_true h
      clear e1 e2 e3 e4 h
      obtain ⟨_, _, _, i0, i1, i2, f0, f1, f2⟩ := (RB.out.rm.room3.ext b3).cells
      obtain ⟨_, _, _, l0, l1, l2, m0, m1, m2⟩ := (RC.out.rm.room3.ext b3).cells
      have hne := HBC.out
      have hne' := Ne.symm hne
      go_upto_region 4 with (fail)
      have T4 := TwoP.put (e := 4) (t := 33) (x := y) (y := x) (by decide) (Ext.trans b2 b3) (RB.out.ext b3) (RC.out.ext b3) SB8.out SC9.out HBC.out ⟨_, _, rfl, OM.out.ext b3, OC.out.ext b3⟩ ⟨_, _, rfl, ON.out.ext b3, OD.out.ext b3⟩
      obtain ⟨w4, hw4⟩ : ∃ w4, w4 = put3 (put3 w3 B (.bool (decide (y.num < 0))) (.slice am (bitsOf y.num.natAbs).length cm) (.slice ac (bitsOf y.den).length cc)) C (.bool (decide (x.num < 0))) (.slice an (bitsOf x.num.natAbs).length cn) (.slice ad (bitsOf x.den).length cd) := ⟨_, rfl⟩
      rw [← hw4] at T4
      show Code.wp _ _ _ _ (put3 (put3 w3 B (.bool (decide (y.num < 0))) (.slice am (bitsOf y.num.natAbs).length cm) (.slice ac (bitsOf y.den).length cc)) C (.bool (decide (x.num < 0))) (.slice an (bitsOf x.num.natAbs).length cn) (.slice ad (bitsOf x.den).length cd))
      rw [← hw4]
      clear hw4 i0 i1 i2 l0 l1 l2 m0 m1 m2 f0 f1 f2 k10 k11 k12 k20 k21 k22
      obtain ⟨b4, ⟨k10, k11, k12⟩, ⟨k20, k21, k22⟩, ⟨_, _, q1, ou, ov⟩, ⟨_, _, q2, og, oh⟩, -, -, -, -, -⟩ := T4
      obtain ⟨rfl, rfl⟩ := by simpa using q1
      obtain ⟨rfl, rfl⟩ := by simpa using q2
      have OU := Lib.hid ou
      have OV := Lib.hid ov
      have OG := Lib.hid og
      have OH := Lib.hid oh
      clear ou ov og oh q1 q2
      obtain ⟨_, _, _, _, _, _, j0, j1, j2, j3, j4, j5, g0, g1, g2, g3, g4, g5⟩ := (RR.out.ext b4).c6
      go_wp2_with fail
      refine bodyPost_ret (v := .agg #[.bool (decide (y.num < 0)), .slice am (bitsOf y.num.natAbs).length cm, .slice ac (bitsOf y.den).length cc, .bool (decide (x.num < 0)), .slice an (bitsOf x.num.natAbs).length cn, .slice ad (bitsOf x.den).length cd]) (by simp [results, Try.results41, go_sem, j0, j1, j2, j3, j4, j5]) rfl ?_
      exact hR.out _ _ (Gives.mk (put6_below (Ext.trans b1 b4) (by omega) _ _ _ _ _ _) ⟨_, _, _, _, rfl, (OU.out.put6 (Ext.refl _) (.inl (by have := SZ.out; omega)) _ _ _ _ _ _).mono (by have := SZ.out; omega), (OV.out.put6 (Ext.refl _) (.inl (by have := SZ.out; omega)) _ _ _ _ _ _).mono (by have := SZ.out; omega), (OG.out.put6 (Ext.refl _) (.inl (by have := SZ.out; omega)) _ _ _ _ _ _).mono (by have := SZ.out; omega), (OH.out.put6 (Ext.refl _) (.inl (by have := SZ.out; omega)) _ _ _ _ _ _).mono (by have := SZ.out; omega)⟩)
    · rw [e3 h, ← e4 h] at hR
      have ht : decide (0 < t) = false := decide_eq_false h
      obtain ⟨_, _, _, _, _, _, j0, j1, j2, j3, j4, j5, g0, g1, g2, g3, g4, g5⟩ := (RR.out.ext (Ext.trans b2 b3)).c6
      clear e1 e2 e3 e4 h
      go_wp2_with fail
      refine bodyPost_ret (v := .agg #[.bool (decide (x.num < 0)), .slice an (bitsOf x.num.natAbs).length cn, .slice ad (bitsOf x.den).length cd, .bool (decide (y.num < 0)), .slice am (bitsOf y.num.natAbs).length cm, .slice ac (bitsOf y.den).length cc]) (by simp [results, Try.results41, go_sem, j0, j1, j2, j3, j4, j5]) rfl ?_
      exact hR.out _ _ (Gives.mk (put6_below (Ext.trans b1 (Ext.trans b2 b3)) (by omega) _ _ _ _ _ _) ⟨_, _, _, _, rfl, ((ON.out.ext b3).put6 (Ext.refl _) (.inl (by have := SZ.out; omega)) _ _ _ _ _ _).mono (by have := SZ.out; omega), ((OD.out.ext b3).put6 (Ext.refl _) (.inl (by have := SZ.out; omega)) _ _ _ _ _ _).mono (by have := SZ.out; omega), ((OM.out.ext b3).put6 (Ext.refl _) (.inl (by have := SZ.out; omega)) _ _ _ _ _ _).mono (by have := SZ.out; omega), ((OC.out.ext b3).put6 (Ext.refl _) (.inl (by have := SZ.out; omega)) _ _ _ _ _ _).mono (by have := SZ.out; omega)⟩)
end Go.Proofs.Ytpeeacdnjbcmiaa
