/- A group of texts: PRef17b, PSpanMax, PRef17Max, PWeigh, PRef17Weigh, PWeighP -/
import Derived.Test.YtnbbhpihlcglgaaPRef17
import Derived.Test.YtnbbhpihlcglgaaRowAll
import Derived.Test.YtnbbhpihlcglgaaBq
import Derived.Test.YtnbbhpihlcglgaaPSpan2
import Derived.Test.YtnbbhpihlcglgaaPNums
/- attestref17.Scale -/
namespace Go.Proofs.Ytnbbhpihlcglgaa
open Go.RowKit Go.Att

/-- Two new blocks hold x and y, whose lists are new too. -/
def TwoP (e t : TypeId) (w0 w : World) (B C : Nat) (n d n' d' : Value) (x y : Rat) : Prop := Ext w0 w ∧ Box3 w B (.bool (decide (x.num < 0))) n d ∧ Box3 w C (.bool (decide (y.num < 0))) n' d' ∧
  OwnP e w0.heap.size w (.agg #[.bool (decide (x.num < 0)), n, d]) x ∧ OwnP e w0.heap.size w (.agg #[.bool (decide (y.num < 0)), n', d']) y ∧ B ≠ C ∧ Rt w B 3 t ∧ Rt w C 3 t ∧ w0.heap.size ≤ B ∧ w0.heap.size ≤ C
theorem TwoP.put {e t : TypeId} {w0 w : World} {B C : Nat} {n d n' d' : Value} {x y : Rat} (hne : e ≠ t) (hX : Ext w0 w) (rB : Rt w B 3 t) (rC : Rt w C 3 t) (sB : w0.heap.size ≤ B) (sC : w0.heap.size ≤ C) (hBC : B ≠ C)
    (p : OwnP e w0.heap.size w (.agg #[.bool (decide (x.num < 0)), n, d]) x) (q : OwnP e w0.heap.size w (.agg #[.bool (decide (y.num < 0)), n', d']) y) :
    TwoP e t w0 (put3 (put3 w B (.bool (decide (x.num < 0))) n d) C (.bool (decide (y.num < 0))) n' d') B C n d n' d' x y := by
  have r1 := rC.putL (Ne.symm hBC) 0 [.bool (decide (x.num < 0)), n, d]
  have r0 := (rB.putL_at [.bool (decide (x.num < 0)), n, d] rfl).2.putL hBC 0 [.bool (decide (y.num < 0)), n', d']
  refine ⟨put3_below (put3_below hX sB _ _ _) sC _ _ _, ((rB.putL_at [_, _, _] rfl).1.put3 hBC _ _ _).c3, (r1.putL_at [_, _, _] rfl).1.c3, ?_, ?_, hBC, r0, (r1.putL_at [_, _, _] rfl).2, sB, sC⟩
  · exact (p.putT rB hne 0 [_, _, _]).putT r1 hne 0 [_, _, _]
  · exact (q.putT rB hne 0 [_, _, _]).putT r1 hne 0 [_, _, _]
theorem mx_alt {x y : Rat} (h : ¬ 0 < (x - y).num.sign) : y = mx x y := by
  unfold mx
  by_cases h2 : 0 ≤ (x - y).num.sign
  · rw [if_pos h2]; exact (sign_zero (by omega)).symm
  · rw [if_neg h2]

set_option maxHeartbeats 4000000 in
set_option linter.unusedSimpArgs false in
theorem r17scale_any {w : World} {va vb : Value} {r a b : Rat} (hp : RdP w va r) (hq : RdE w vb a b) (sr : Sb 50000 r) (sa : Sb 50000 a) (sb : Sb 50000 b) (sx : Sb 50000 (r * a)) (sy : Sb 50000 (r * b)) :
    Calls Try.prog 84 #[va, vb] w (Gives w fun v' w' => OwnE 4 w.heap.size w' v' (mn (r * a) (r * b)) (mx (r * a) (r * b))) := by
  refine via fun R hR => ?_
  have SA := Lib.hid sa
  have SB := Lib.hid sb
  have SR := Lib.hid sr
  generalize hx : r * a = x at *
  generalize hy : r * b = y at *
  have SX := Lib.hid sx
  have SY := Lib.hid sy
  have HX := Lib.hid hx
  have HY := Lib.hid hy
  have HA := Lib.hid hp
  obtain ⟨x1, x2, rfl, -, -⟩ := hp
  obtain ⟨y0, y1, y2, y3, y4, y5, rfl, h3, h4⟩ := hq
  have HC := Lib.hid h3
  have HD := Lib.hid h4
  obtain ⟨w1, hw1, b1, c1, c2, -, -, -, r3, -⟩ := bx3 w [.bool (decide (r.num < 0)), x1, x2] [y0, y1, y2, y3, y4, y5] [.bool false, .slice none 0 0, .slice none 0 0, .bool false, .slice none 0 0, .slice none 0 0] 46 48 48
  have C1 := Lib.hid c1
  have C2 := Lib.hid c2
  have RR : Hid (Rm w1 (w.heap.size + 1 + 1) 6) := r3
  have SZ := Lib.hid RR.out.lt
  have HW := Lib.hid hw1
  clear h3 h4 sr sa sb sx sy c1 c2 r3 hw1 hx hy
  go_enter Try.func84, Try.ntmps84
  go_upto_region 1 with (fail)
  rw [← HW.out]
  clear HW
  go_cut [5, 6] (fun s5 s6 wx => ∃ (B C : Nat) (n d n' d' : Value), s5 = .pointer (some ⟨B, 0, none⟩) ∧ s6 = .pointer (some ⟨C, 0, none⟩) ∧ Hid (w.heap.size + 1 + 1 ≠ B) ∧ Hid (w.heap.size + 1 + 1 ≠ C) ∧ Hid (TwoP 4 46 w1 wx B C n d n' d' x y))
  case first =>
    refine wp_region_noPanic ?_
    refine region_cap fun O Q9 hO hQ => ?_
    obtain ⟨SS, hSS⟩ : ∃ SS : World → Prop, Hid (SS = fun w' => (w'.cell? ⟨w.heap.size, 0, none⟩ = some (.bool (decide (r.num < 0))) ∧ w'.cell? ⟨w.heap.size, 1, none⟩ = some (x1) ∧ w'.cell? ⟨w.heap.size, 2, none⟩ = some (x2)) ∧ (w'.cell? ⟨w.heap.size + 1, 0, none⟩ = some (y0) ∧ w'.cell? ⟨w.heap.size + 1, 1, none⟩ = some (y1) ∧ w'.cell? ⟨w.heap.size + 1, 2, none⟩ = some (y2) ∧ w'.cell? ⟨w.heap.size + 1, 3, none⟩ = some (y3) ∧ w'.cell? ⟨w.heap.size + 1, 4, none⟩ = some (y4) ∧ w'.cell? ⟨w.heap.size + 1, 5, none⟩ = some (y5))) := ⟨_, rfl⟩
    have KP : Hid (∀ wv, Ext w1 wv → SS wv) := fun wv XE => by rw [hSS.out]; exact ⟨(C1.out.ext XE).c3, (C2.out.ext XE).c6⟩
    have L2_8_9 : ∀ (wv : World) (v3 v7 : Value) (B8 B9 : Nat), Hid (Ext w1 wv) → Hid (OwnP 4 w1.heap.size wv v3 x) → Hid (OwnP 4 w1.heap.size wv v7 y) → Hid (Rt wv B8 3 46) → Hid (w1.heap.size ≤ B8) → Hid (Rt wv B9 3 46) → Hid (w1.heap.size ≤ B9) → Hid (B8 ≠ B9) → wpAnyH Try.prog .any O Q9 SS 2 #[true, true, true, true, true, true, true, true, true, true, false, false] ⟨#[.agg #[.bool (decide (r.num < 0)), x1, x2], .agg #[y0, y1, y2, y3, y4, y5], .pointer (some ⟨w.heap.size, 0, none⟩), .pointer (some ⟨w.heap.size + 1, 0, none⟩), .pointer (some ⟨w.heap.size + 1 + 1, 0, none⟩), .pointer (some ⟨B8, 0, none⟩), .pointer (some ⟨B9, 0, none⟩), .agg #[.bool (decide (r.num < 0)), x1, x2], .pointer (some ⟨w.heap.size + 1, 0, none⟩), .agg #[y0, y1, y2], v3, .agg #[.bool (decide (r.num < 0)), x1, x2], .pointer (some ⟨w.heap.size + 1, 3, none⟩), .agg #[y3, y4, y5], v7, undef, undef, undef, undef, undef, undef, undef, undef, undef], []⟩ wv := by
      intro wv v3 v7 B8 B9 hX p3 p7 r8 s8 r9 s9 ne8_9
      have hO1 := hO.out
      have hQ1 := hQ.out
      subst hO1
      subst hQ1
      have XE := hX.out
      have hHeld := KP.out _ XE
      have hS1 := hSS.out
      subst hS1
      obtain ⟨n3, d3, rfl, on3, od3⟩ := p3.out
      obtain ⟨n7, d7, rfl, on7, od7⟩ := p7.out
      obtain ⟨a3, c3, rfl, -, -, -, -⟩ := on3.rd.shape
      obtain ⟨a3', c3', rfl, -, -, -, -⟩ := od3.rd.shape
      obtain ⟨a7, c7, rfl, -, -, -, -⟩ := on7.rd.shape
      obtain ⟨a7', c7', rfl, -, -, -, -⟩ := od7.rd.shape
      obtain ⟨_, _, _, i0, i1, i2, f0, f1, f2⟩ := r8.out.rm.room3.cells
      obtain ⟨_, _, _, j0, j1, j2, g0, g1, g2⟩ := r9.out.rm.room3.cells
      have hne := ne8_9.out
      have hne' := Ne.symm hne
      refine wpAnyH_ready (rs := [10]) (by kernel_rfl) (by simp) ?_
      refine AllReadyH.cons (o := _) rfl (fun K hK => ?_) AllReadyH.nil
      go_simp
      refine hK.out _ _ (⟨((C1.out.ext XE).put3 (by have := s8.out; have := SZ.out; omega) _ _ _).c3, ((C2.out.ext XE).put3 (by have := s8.out; have := SZ.out; omega) _ _ _).c6⟩) (fun hHeld => ?_)
      clear hK K
      try simp only [Act.put, List.getElem_toArray, List.getElem_cons_succ, List.getElem_cons_zero, List.setIfInBounds_toArray, List.set_cons_zero, List.set_cons_succ]
      refine wpAnyH_ready (rs := [11]) (by kernel_rfl) (by simp) ?_
      refine AllReadyH.cons (o := _) rfl (fun K hK => ?_) AllReadyH.nil
      go_simp
      refine hK.out _ _ (⟨(((C1.out.ext XE).put3 (by have := s8.out; have := SZ.out; omega) _ _ _).put3 (by have := s9.out; have := SZ.out; omega) _ _ _).c3, (((C2.out.ext XE).put3 (by have := s8.out; have := SZ.out; omega) _ _ _).put3 (by have := s9.out; have := SZ.out; omega) _ _ _).c6⟩) (fun hHeld => ?_)
      clear hK K
      try simp only [Act.put, List.getElem_toArray, List.getElem_cons_succ, List.getElem_cons_zero, List.setIfInBounds_toArray, List.set_cons_zero, List.set_cons_succ]
      refine wpAnyH_done (by kernel_rfl) ?_ _
      refine NoPanic.normal ?_
      go_wp2_with fail
      go_meet
      exact ⟨_, _, _, _, _, _, rfl, rfl, (by show _ ≠ _; have := s8.out; have := SZ.out; omega), (by show _ ≠ _; have := s9.out; have := SZ.out; omega), TwoP.put (by decide) hX.out r8.out r9.out s8.out s9.out ne8_9.out ⟨_, _, rfl, on3, od3⟩ ⟨_, _, rfl, on7, od7⟩⟩
    have L1_8_9 : ∀ (wv : World) (v3 : Value) (B8 B9 : Nat), Hid (Ext w1 wv) → Hid (OwnP 4 w1.heap.size wv v3 x) → Hid (Rt wv B8 3 46) → Hid (w1.heap.size ≤ B8) → Hid (Rt wv B9 3 46) → Hid (w1.heap.size ≤ B9) → Hid (B8 ≠ B9) → wpAnyH Try.prog .any O Q9 SS 3 #[true, true, true, true, true, true, true, false, true, true, false, false] ⟨#[.agg #[.bool (decide (r.num < 0)), x1, x2], .agg #[y0, y1, y2, y3, y4, y5], .pointer (some ⟨w.heap.size, 0, none⟩), .pointer (some ⟨w.heap.size + 1, 0, none⟩), .pointer (some ⟨w.heap.size + 1 + 1, 0, none⟩), .pointer (some ⟨B8, 0, none⟩), .pointer (some ⟨B9, 0, none⟩), .agg #[.bool (decide (r.num < 0)), x1, x2], .pointer (some ⟨w.heap.size + 1, 0, none⟩), .agg #[y0, y1, y2], v3, .agg #[.bool (decide (r.num < 0)), x1, x2], .pointer (some ⟨w.heap.size + 1, 3, none⟩), .agg #[y3, y4, y5], undef, undef, undef, undef, undef, undef, undef, undef, undef, undef], []⟩ wv := by
      intro wv v3 B8 B9 hX p3 r8 s8 r9 s9 ne8_9
      have hO1 := hO.out
      have hQ1 := hQ.out
      subst hO1
      subst hQ1
      have XE := hX.out
      refine wpAnyH_ready (rs := [7]) (by kernel_rfl) (by simp) ?_
      refine AllReadyH.cons (o := _) rfl (fun K hK => ?_) AllReadyH.nil
      · skip
        go_simp
        go_at_call 100
        refine (HY.out ▸ r5mul_any (HA.out.ext (Ext.trans b1 XE)) (HD.out.ext (Ext.trans b1 XE)) SR.out SB.out).mono ?_
        rintro e wn ⟨vn, rfl, bn, on⟩
        go_wp2_with fail
        refine hK.out _ _ (KP.out _ (Ext.trans XE bn)) (fun _ => ?_)
        clear hK K
        try simp only [Act.put, List.getElem_toArray, List.getElem_cons_succ, List.getElem_cons_zero, List.setIfInBounds_toArray, List.set_cons_zero, List.set_cons_succ]
        exact wpAnyH_to (L2_8_9 wn v3 vn B8 B9 (Ext.trans XE bn) (p3.out.ext bn) (on.mono (Below.size XE)) (r8.out.ext bn) s8 (r9.out.ext bn) s9 ne8_9) (by kernel_rfl) (by kernel_rfl) rfl rfl
    have L2_8 : ∀ (wv : World) (v3 v7 : Value) (B8 : Nat), Hid (Ext w1 wv) → Hid (OwnP 4 w1.heap.size wv v3 x) → Hid (OwnP 4 w1.heap.size wv v7 y) → Hid (Rt wv B8 3 46) → Hid (w1.heap.size ≤ B8) → wpAnyH Try.prog .any O Q9 SS 3 #[true, true, true, true, true, true, true, true, true, false, false, false] ⟨#[.agg #[.bool (decide (r.num < 0)), x1, x2], .agg #[y0, y1, y2, y3, y4, y5], .pointer (some ⟨w.heap.size, 0, none⟩), .pointer (some ⟨w.heap.size + 1, 0, none⟩), .pointer (some ⟨w.heap.size + 1 + 1, 0, none⟩), .pointer (some ⟨B8, 0, none⟩), undef, .agg #[.bool (decide (r.num < 0)), x1, x2], .pointer (some ⟨w.heap.size + 1, 0, none⟩), .agg #[y0, y1, y2], v3, .agg #[.bool (decide (r.num < 0)), x1, x2], .pointer (some ⟨w.heap.size + 1, 3, none⟩), .agg #[y3, y4, y5], v7, undef, undef, undef, undef, undef, undef, undef, undef, undef], []⟩ wv := by
      intro wv v3 v7 B8 hX p3 p7 r8 s8
      have hO1 := hO.out
      have hQ1 := hQ.out
      subst hO1
      subst hQ1
      have XE := hX.out
      refine wpAnyH_ready (rs := [9]) (by kernel_rfl) (by simp) ?_
      refine AllReadyH.cons (o := _) rfl (fun K hK => ?_) AllReadyH.nil
      · skip
        go_simp
        refine hK.out _ _ (KP.out _ (Ext.trans XE (Ext.alloc wv (.cells [.bool false, .slice none 0 0, .slice none 0 0].toArray 46)))) (fun _ => ?_)
        clear hK K
        try simp only [Act.put, List.getElem_toArray, List.getElem_cons_succ, List.getElem_cons_zero, List.setIfInBounds_toArray, List.set_cons_zero, List.set_cons_succ]
        exact wpAnyH_to (L2_8_9 _ v3 v7 B8 wv.heap.size (Ext.trans XE (Ext.alloc wv (.cells [.bool false, .slice none 0 0, .slice none 0 0].toArray 46))) (p3.out.ext (Ext.alloc wv (.cells [.bool false, .slice none 0 0, .slice none 0 0].toArray 46))) (p7.out.ext (Ext.alloc wv (.cells [.bool false, .slice none 0 0, .slice none 0 0].toArray 46))) (r8.out.ext (Ext.alloc wv (.cells [.bool false, .slice none 0 0, .slice none 0 0].toArray 46))) s8 (Rt.new wv [.bool false, .slice none 0 0, .slice none 0 0] 46) (Below.size XE) (Nat.ne_of_lt r8.out.lt)) (by kernel_rfl) (by kernel_rfl) rfl rfl
    have L2_9 : ∀ (wv : World) (v3 v7 : Value) (B9 : Nat), Hid (Ext w1 wv) → Hid (OwnP 4 w1.heap.size wv v3 x) → Hid (OwnP 4 w1.heap.size wv v7 y) → Hid (Rt wv B9 3 46) → Hid (w1.heap.size ≤ B9) → wpAnyH Try.prog .any O Q9 SS 3 #[true, true, true, true, true, true, true, true, false, true, false, false] ⟨#[.agg #[.bool (decide (r.num < 0)), x1, x2], .agg #[y0, y1, y2, y3, y4, y5], .pointer (some ⟨w.heap.size, 0, none⟩), .pointer (some ⟨w.heap.size + 1, 0, none⟩), .pointer (some ⟨w.heap.size + 1 + 1, 0, none⟩), undef, .pointer (some ⟨B9, 0, none⟩), .agg #[.bool (decide (r.num < 0)), x1, x2], .pointer (some ⟨w.heap.size + 1, 0, none⟩), .agg #[y0, y1, y2], v3, .agg #[.bool (decide (r.num < 0)), x1, x2], .pointer (some ⟨w.heap.size + 1, 3, none⟩), .agg #[y3, y4, y5], v7, undef, undef, undef, undef, undef, undef, undef, undef, undef], []⟩ wv := by
      intro wv v3 v7 B9 hX p3 p7 r9 s9
      have hO1 := hO.out
      have hQ1 := hQ.out
      subst hO1
      subst hQ1
      have XE := hX.out
      refine wpAnyH_ready (rs := [8]) (by kernel_rfl) (by simp) ?_
      refine AllReadyH.cons (o := _) rfl (fun K hK => ?_) AllReadyH.nil
      · skip
        go_simp
        refine hK.out _ _ (KP.out _ (Ext.trans XE (Ext.alloc wv (.cells [.bool false, .slice none 0 0, .slice none 0 0].toArray 46)))) (fun _ => ?_)
        clear hK K
        try simp only [Act.put, List.getElem_toArray, List.getElem_cons_succ, List.getElem_cons_zero, List.setIfInBounds_toArray, List.set_cons_zero, List.set_cons_succ]
        exact wpAnyH_to (L2_8_9 _ v3 v7 wv.heap.size B9 (Ext.trans XE (Ext.alloc wv (.cells [.bool false, .slice none 0 0, .slice none 0 0].toArray 46))) (p3.out.ext (Ext.alloc wv (.cells [.bool false, .slice none 0 0, .slice none 0 0].toArray 46))) (p7.out.ext (Ext.alloc wv (.cells [.bool false, .slice none 0 0, .slice none 0 0].toArray 46))) (Rt.new wv [.bool false, .slice none 0 0, .slice none 0 0] 46) (Below.size XE) (r9.out.ext (Ext.alloc wv (.cells [.bool false, .slice none 0 0, .slice none 0 0].toArray 46))) s9 (Nat.ne_of_gt r9.out.lt)) (by kernel_rfl) (by kernel_rfl) rfl rfl
    have L0_8_9 : ∀ (wv : World) (B8 B9 : Nat), Hid (Ext w1 wv) → Hid (Rt wv B8 3 46) → Hid (w1.heap.size ≤ B8) → Hid (Rt wv B9 3 46) → Hid (w1.heap.size ≤ B9) → Hid (B8 ≠ B9) → wpAnyH Try.prog .any O Q9 SS 4 #[true, true, true, false, true, true, true, false, true, true, false, false] ⟨#[.agg #[.bool (decide (r.num < 0)), x1, x2], .agg #[y0, y1, y2, y3, y4, y5], .pointer (some ⟨w.heap.size, 0, none⟩), .pointer (some ⟨w.heap.size + 1, 0, none⟩), .pointer (some ⟨w.heap.size + 1 + 1, 0, none⟩), .pointer (some ⟨B8, 0, none⟩), .pointer (some ⟨B9, 0, none⟩), .agg #[.bool (decide (r.num < 0)), x1, x2], .pointer (some ⟨w.heap.size + 1, 0, none⟩), .agg #[y0, y1, y2], undef, .agg #[.bool (decide (r.num < 0)), x1, x2], .pointer (some ⟨w.heap.size + 1, 3, none⟩), .agg #[y3, y4, y5], undef, undef, undef, undef, undef, undef, undef, undef, undef, undef], []⟩ wv := by
      intro wv B8 B9 hX r8 s8 r9 s9 ne8_9
      have hO1 := hO.out
      have hQ1 := hQ.out
      subst hO1
      subst hQ1
      have XE := hX.out
      refine wpAnyH_ready (rs := [3]) (by kernel_rfl) (by simp) ?_
      refine AllReadyH.cons (o := _) rfl (fun K hK => ?_) AllReadyH.nil
      · skip
        go_simp
        go_at_call 100
        refine (HX.out ▸ r5mul_any (HA.out.ext (Ext.trans b1 XE)) (HC.out.ext (Ext.trans b1 XE)) SR.out SA.out).mono ?_
        rintro e wn ⟨vn, rfl, bn, on⟩
        go_wp2_with fail
        refine hK.out _ _ (KP.out _ (Ext.trans XE bn)) (fun _ => ?_)
        clear hK K
        try simp only [Act.put, List.getElem_toArray, List.getElem_cons_succ, List.getElem_cons_zero, List.setIfInBounds_toArray, List.set_cons_zero, List.set_cons_succ]
        exact wpAnyH_to (L1_8_9 wn vn B8 B9 (Ext.trans XE bn) (on.mono (Below.size XE)) (r8.out.ext bn) s8 (r9.out.ext bn) s9 ne8_9) (by kernel_rfl) (by kernel_rfl) rfl rfl
    have L1_8 : ∀ (wv : World) (v3 : Value) (B8 : Nat), Hid (Ext w1 wv) → Hid (OwnP 4 w1.heap.size wv v3 x) → Hid (Rt wv B8 3 46) → Hid (w1.heap.size ≤ B8) → wpAnyH Try.prog .any O Q9 SS 4 #[true, true, true, true, true, true, true, false, true, false, false, false] ⟨#[.agg #[.bool (decide (r.num < 0)), x1, x2], .agg #[y0, y1, y2, y3, y4, y5], .pointer (some ⟨w.heap.size, 0, none⟩), .pointer (some ⟨w.heap.size + 1, 0, none⟩), .pointer (some ⟨w.heap.size + 1 + 1, 0, none⟩), .pointer (some ⟨B8, 0, none⟩), undef, .agg #[.bool (decide (r.num < 0)), x1, x2], .pointer (some ⟨w.heap.size + 1, 0, none⟩), .agg #[y0, y1, y2], v3, .agg #[.bool (decide (r.num < 0)), x1, x2], .pointer (some ⟨w.heap.size + 1, 3, none⟩), .agg #[y3, y4, y5], undef, undef, undef, undef, undef, undef, undef, undef, undef, undef], []⟩ wv := by
      intro wv v3 B8 hX p3 r8 s8
      have hO1 := hO.out
      have hQ1 := hQ.out
      subst hO1
      subst hQ1
      have XE := hX.out
      refine wpAnyH_ready (rs := [7, 9]) (by kernel_rfl) (by simp) ?_
      refine AllReadyH.cons (o := _) rfl (fun K hK => ?_) (AllReadyH.cons (o := _) rfl (fun K hK => ?_) AllReadyH.nil)
      · skip
        go_simp
        go_at_call 100
        refine (HY.out ▸ r5mul_any (HA.out.ext (Ext.trans b1 XE)) (HD.out.ext (Ext.trans b1 XE)) SR.out SB.out).mono ?_
        rintro e wn ⟨vn, rfl, bn, on⟩
        go_wp2_with fail
        refine hK.out _ _ (KP.out _ (Ext.trans XE bn)) (fun _ => ?_)
        clear hK K
        try simp only [Act.put, List.getElem_toArray, List.getElem_cons_succ, List.getElem_cons_zero, List.setIfInBounds_toArray, List.set_cons_zero, List.set_cons_succ]
        exact wpAnyH_to (L2_8 wn v3 vn B8 (Ext.trans XE bn) (p3.out.ext bn) (on.mono (Below.size XE)) (r8.out.ext bn) s8) (by kernel_rfl) (by kernel_rfl) rfl rfl
      · skip
        go_simp
        refine hK.out _ _ (KP.out _ (Ext.trans XE (Ext.alloc wv (.cells [.bool false, .slice none 0 0, .slice none 0 0].toArray 46)))) (fun _ => ?_)
        clear hK K
        try simp only [Act.put, List.getElem_toArray, List.getElem_cons_succ, List.getElem_cons_zero, List.setIfInBounds_toArray, List.set_cons_zero, List.set_cons_succ]
        exact wpAnyH_to (L1_8_9 _ v3 B8 wv.heap.size (Ext.trans XE (Ext.alloc wv (.cells [.bool false, .slice none 0 0, .slice none 0 0].toArray 46))) (p3.out.ext (Ext.alloc wv (.cells [.bool false, .slice none 0 0, .slice none 0 0].toArray 46))) (r8.out.ext (Ext.alloc wv (.cells [.bool false, .slice none 0 0, .slice none 0 0].toArray 46))) s8 (Rt.new wv [.bool false, .slice none 0 0, .slice none 0 0] 46) (Below.size XE) (Nat.ne_of_lt r8.out.lt)) (by kernel_rfl) (by kernel_rfl) rfl rfl
    have L1_9 : ∀ (wv : World) (v3 : Value) (B9 : Nat), Hid (Ext w1 wv) → Hid (OwnP 4 w1.heap.size wv v3 x) → Hid (Rt wv B9 3 46) → Hid (w1.heap.size ≤ B9) → wpAnyH Try.prog .any O Q9 SS 4 #[true, true, true, true, true, true, true, false, false, true, false, false] ⟨#[.agg #[.bool (decide (r.num < 0)), x1, x2], .agg #[y0, y1, y2, y3, y4, y5], .pointer (some ⟨w.heap.size, 0, none⟩), .pointer (some ⟨w.heap.size + 1, 0, none⟩), .pointer (some ⟨w.heap.size + 1 + 1, 0, none⟩), undef, .pointer (some ⟨B9, 0, none⟩), .agg #[.bool (decide (r.num < 0)), x1, x2], .pointer (some ⟨w.heap.size + 1, 0, none⟩), .agg #[y0, y1, y2], v3, .agg #[.bool (decide (r.num < 0)), x1, x2], .pointer (some ⟨w.heap.size + 1, 3, none⟩), .agg #[y3, y4, y5], undef, undef, undef, undef, undef, undef, undef, undef, undef, undef], []⟩ wv := by
      intro wv v3 B9 hX p3 r9 s9
      have hO1 := hO.out
      have hQ1 := hQ.out
      subst hO1
      subst hQ1
      have XE := hX.out
      refine wpAnyH_ready (rs := [7, 8]) (by kernel_rfl) (by simp) ?_
      refine AllReadyH.cons (o := _) rfl (fun K hK => ?_) (AllReadyH.cons (o := _) rfl (fun K hK => ?_) AllReadyH.nil)
      · skip
        go_simp
        go_at_call 100
        refine (HY.out ▸ r5mul_any (HA.out.ext (Ext.trans b1 XE)) (HD.out.ext (Ext.trans b1 XE)) SR.out SB.out).mono ?_
        rintro e wn ⟨vn, rfl, bn, on⟩
        go_wp2_with fail
        refine hK.out _ _ (KP.out _ (Ext.trans XE bn)) (fun _ => ?_)
        clear hK K
        try simp only [Act.put, List.getElem_toArray, List.getElem_cons_succ, List.getElem_cons_zero, List.setIfInBounds_toArray, List.set_cons_zero, List.set_cons_succ]
        exact wpAnyH_to (L2_9 wn v3 vn B9 (Ext.trans XE bn) (p3.out.ext bn) (on.mono (Below.size XE)) (r9.out.ext bn) s9) (by kernel_rfl) (by kernel_rfl) rfl rfl
      · skip
        go_simp
        refine hK.out _ _ (KP.out _ (Ext.trans XE (Ext.alloc wv (.cells [.bool false, .slice none 0 0, .slice none 0 0].toArray 46)))) (fun _ => ?_)
        clear hK K
        try simp only [Act.put, List.getElem_toArray, List.getElem_cons_succ, List.getElem_cons_zero, List.setIfInBounds_toArray, List.set_cons_zero, List.set_cons_succ]
        exact wpAnyH_to (L1_8_9 _ v3 wv.heap.size B9 (Ext.trans XE (Ext.alloc wv (.cells [.bool false, .slice none 0 0, .slice none 0 0].toArray 46))) (p3.out.ext (Ext.alloc wv (.cells [.bool false, .slice none 0 0, .slice none 0 0].toArray 46))) (Rt.new wv [.bool false, .slice none 0 0, .slice none 0 0] 46) (Below.size XE) (r9.out.ext (Ext.alloc wv (.cells [.bool false, .slice none 0 0, .slice none 0 0].toArray 46))) s9 (Nat.ne_of_gt r9.out.lt)) (by kernel_rfl) (by kernel_rfl) rfl rfl
    have L2_ : ∀ (wv : World) (v3 v7 : Value), Hid (Ext w1 wv) → Hid (OwnP 4 w1.heap.size wv v3 x) → Hid (OwnP 4 w1.heap.size wv v7 y) → wpAnyH Try.prog .any O Q9 SS 4 #[true, true, true, true, true, true, true, true, false, false, false, false] ⟨#[.agg #[.bool (decide (r.num < 0)), x1, x2], .agg #[y0, y1, y2, y3, y4, y5], .pointer (some ⟨w.heap.size, 0, none⟩), .pointer (some ⟨w.heap.size + 1, 0, none⟩), .pointer (some ⟨w.heap.size + 1 + 1, 0, none⟩), undef, undef, .agg #[.bool (decide (r.num < 0)), x1, x2], .pointer (some ⟨w.heap.size + 1, 0, none⟩), .agg #[y0, y1, y2], v3, .agg #[.bool (decide (r.num < 0)), x1, x2], .pointer (some ⟨w.heap.size + 1, 3, none⟩), .agg #[y3, y4, y5], v7, undef, undef, undef, undef, undef, undef, undef, undef, undef], []⟩ wv := by
      intro wv v3 v7 hX p3 p7
      have hO1 := hO.out
      have hQ1 := hQ.out
      subst hO1
      subst hQ1
      have XE := hX.out
      refine wpAnyH_ready (rs := [8, 9]) (by kernel_rfl) (by simp) ?_
      refine AllReadyH.cons (o := _) rfl (fun K hK => ?_) (AllReadyH.cons (o := _) rfl (fun K hK => ?_) AllReadyH.nil)
      · skip
        go_simp
        refine hK.out _ _ (KP.out _ (Ext.trans XE (Ext.alloc wv (.cells [.bool false, .slice none 0 0, .slice none 0 0].toArray 46)))) (fun _ => ?_)
        clear hK K
        try simp only [Act.put, List.getElem_toArray, List.getElem_cons_succ, List.getElem_cons_zero, List.setIfInBounds_toArray, List.set_cons_zero, List.set_cons_succ]
        exact wpAnyH_to (L2_8 _ v3 v7 wv.heap.size (Ext.trans XE (Ext.alloc wv (.cells [.bool false, .slice none 0 0, .slice none 0 0].toArray 46))) (p3.out.ext (Ext.alloc wv (.cells [.bool false, .slice none 0 0, .slice none 0 0].toArray 46))) (p7.out.ext (Ext.alloc wv (.cells [.bool false, .slice none 0 0, .slice none 0 0].toArray 46))) (Rt.new wv [.bool false, .slice none 0 0, .slice none 0 0] 46) (Below.size XE)) (by kernel_rfl) (by kernel_rfl) rfl rfl
      · skip
        go_simp
        refine hK.out _ _ (KP.out _ (Ext.trans XE (Ext.alloc wv (.cells [.bool false, .slice none 0 0, .slice none 0 0].toArray 46)))) (fun _ => ?_)
        clear hK K
        try simp only [Act.put, List.getElem_toArray, List.getElem_cons_succ, List.getElem_cons_zero, List.setIfInBounds_toArray, List.set_cons_zero, List.set_cons_succ]
        exact wpAnyH_to (L2_9 _ v3 v7 wv.heap.size (Ext.trans XE (Ext.alloc wv (.cells [.bool false, .slice none 0 0, .slice none 0 0].toArray 46))) (p3.out.ext (Ext.alloc wv (.cells [.bool false, .slice none 0 0, .slice none 0 0].toArray 46))) (p7.out.ext (Ext.alloc wv (.cells [.bool false, .slice none 0 0, .slice none 0 0].toArray 46))) (Rt.new wv [.bool false, .slice none 0 0, .slice none 0 0] 46) (Below.size XE)) (by kernel_rfl) (by kernel_rfl) rfl rfl
    have L0_8 : ∀ (wv : World) (B8 : Nat), Hid (Ext w1 wv) → Hid (Rt wv B8 3 46) → Hid (w1.heap.size ≤ B8) → wpAnyH Try.prog .any O Q9 SS 5 #[true, true, true, false, true, true, true, false, true, false, false, false] ⟨#[.agg #[.bool (decide (r.num < 0)), x1, x2], .agg #[y0, y1, y2, y3, y4, y5], .pointer (some ⟨w.heap.size, 0, none⟩), .pointer (some ⟨w.heap.size + 1, 0, none⟩), .pointer (some ⟨w.heap.size + 1 + 1, 0, none⟩), .pointer (some ⟨B8, 0, none⟩), undef, .agg #[.bool (decide (r.num < 0)), x1, x2], .pointer (some ⟨w.heap.size + 1, 0, none⟩), .agg #[y0, y1, y2], undef, .agg #[.bool (decide (r.num < 0)), x1, x2], .pointer (some ⟨w.heap.size + 1, 3, none⟩), .agg #[y3, y4, y5], undef, undef, undef, undef, undef, undef, undef, undef, undef, undef], []⟩ wv := by
      intro wv B8 hX r8 s8
      have hO1 := hO.out
      have hQ1 := hQ.out
      subst hO1
      subst hQ1
      have XE := hX.out
      refine wpAnyH_ready (rs := [3, 9]) (by kernel_rfl) (by simp) ?_
      refine AllReadyH.cons (o := _) rfl (fun K hK => ?_) (AllReadyH.cons (o := _) rfl (fun K hK => ?_) AllReadyH.nil)
      · skip
        go_simp
        go_at_call 100
        refine (HX.out ▸ r5mul_any (HA.out.ext (Ext.trans b1 XE)) (HC.out.ext (Ext.trans b1 XE)) SR.out SA.out).mono ?_
        rintro e wn ⟨vn, rfl, bn, on⟩
        go_wp2_with fail
        refine hK.out _ _ (KP.out _ (Ext.trans XE bn)) (fun _ => ?_)
        clear hK K
        try simp only [Act.put, List.getElem_toArray, List.getElem_cons_succ, List.getElem_cons_zero, List.setIfInBounds_toArray, List.set_cons_zero, List.set_cons_succ]
        exact wpAnyH_to (L1_8 wn vn B8 (Ext.trans XE bn) (on.mono (Below.size XE)) (r8.out.ext bn) s8) (by kernel_rfl) (by kernel_rfl) rfl rfl
      · skip
        go_simp
        refine hK.out _ _ (KP.out _ (Ext.trans XE (Ext.alloc wv (.cells [.bool false, .slice none 0 0, .slice none 0 0].toArray 46)))) (fun _ => ?_)
        clear hK K
        try simp only [Act.put, List.getElem_toArray, List.getElem_cons_succ, List.getElem_cons_zero, List.setIfInBounds_toArray, List.set_cons_zero, List.set_cons_succ]
        exact wpAnyH_to (L0_8_9 _ B8 wv.heap.size (Ext.trans XE (Ext.alloc wv (.cells [.bool false, .slice none 0 0, .slice none 0 0].toArray 46))) (r8.out.ext (Ext.alloc wv (.cells [.bool false, .slice none 0 0, .slice none 0 0].toArray 46))) s8 (Rt.new wv [.bool false, .slice none 0 0, .slice none 0 0] 46) (Below.size XE) (Nat.ne_of_lt r8.out.lt)) (by kernel_rfl) (by kernel_rfl) rfl rfl
    have L0_9 : ∀ (wv : World) (B9 : Nat), Hid (Ext w1 wv) → Hid (Rt wv B9 3 46) → Hid (w1.heap.size ≤ B9) → wpAnyH Try.prog .any O Q9 SS 5 #[true, true, true, false, true, true, true, false, false, true, false, false] ⟨#[.agg #[.bool (decide (r.num < 0)), x1, x2], .agg #[y0, y1, y2, y3, y4, y5], .pointer (some ⟨w.heap.size, 0, none⟩), .pointer (some ⟨w.heap.size + 1, 0, none⟩), .pointer (some ⟨w.heap.size + 1 + 1, 0, none⟩), undef, .pointer (some ⟨B9, 0, none⟩), .agg #[.bool (decide (r.num < 0)), x1, x2], .pointer (some ⟨w.heap.size + 1, 0, none⟩), .agg #[y0, y1, y2], undef, .agg #[.bool (decide (r.num < 0)), x1, x2], .pointer (some ⟨w.heap.size + 1, 3, none⟩), .agg #[y3, y4, y5], undef, undef, undef, undef, undef, undef, undef, undef, undef, undef], []⟩ wv := by
      intro wv B9 hX r9 s9
      have hO1 := hO.out
      have hQ1 := hQ.out
      subst hO1
      subst hQ1
      have XE := hX.out
      refine wpAnyH_ready (rs := [3, 8]) (by kernel_rfl) (by simp) ?_
      refine AllReadyH.cons (o := _) rfl (fun K hK => ?_) (AllReadyH.cons (o := _) rfl (fun K hK => ?_) AllReadyH.nil)
      · skip
        go_simp
        go_at_call 100
        refine (HX.out ▸ r5mul_any (HA.out.ext (Ext.trans b1 XE)) (HC.out.ext (Ext.trans b1 XE)) SR.out SA.out).mono ?_
        rintro e wn ⟨vn, rfl, bn, on⟩
        go_wp2_with fail
        refine hK.out _ _ (KP.out _ (Ext.trans XE bn)) (fun _ => ?_)
        clear hK K
        try simp only [Act.put, List.getElem_toArray, List.getElem_cons_succ, List.getElem_cons_zero, List.setIfInBounds_toArray, List.set_cons_zero, List.set_cons_succ]
        exact wpAnyH_to (L1_9 wn vn B9 (Ext.trans XE bn) (on.mono (Below.size XE)) (r9.out.ext bn) s9) (by kernel_rfl) (by kernel_rfl) rfl rfl
      · skip
        go_simp
        refine hK.out _ _ (KP.out _ (Ext.trans XE (Ext.alloc wv (.cells [.bool false, .slice none 0 0, .slice none 0 0].toArray 46)))) (fun _ => ?_)
        clear hK K
        try simp only [Act.put, List.getElem_toArray, List.getElem_cons_succ, List.getElem_cons_zero, List.setIfInBounds_toArray, List.set_cons_zero, List.set_cons_succ]
        exact wpAnyH_to (L0_8_9 _ wv.heap.size B9 (Ext.trans XE (Ext.alloc wv (.cells [.bool false, .slice none 0 0, .slice none 0 0].toArray 46))) (Rt.new wv [.bool false, .slice none 0 0, .slice none 0 0] 46) (Below.size XE) (r9.out.ext (Ext.alloc wv (.cells [.bool false, .slice none 0 0, .slice none 0 0].toArray 46))) s9 (Nat.ne_of_gt r9.out.lt)) (by kernel_rfl) (by kernel_rfl) rfl rfl
    have L1_ : ∀ (wv : World) (v3 : Value), Hid (Ext w1 wv) → Hid (OwnP 4 w1.heap.size wv v3 x) → wpAnyH Try.prog .any O Q9 SS 5 #[true, true, true, true, true, true, true, false, false, false, false, false] ⟨#[.agg #[.bool (decide (r.num < 0)), x1, x2], .agg #[y0, y1, y2, y3, y4, y5], .pointer (some ⟨w.heap.size, 0, none⟩), .pointer (some ⟨w.heap.size + 1, 0, none⟩), .pointer (some ⟨w.heap.size + 1 + 1, 0, none⟩), undef, undef, .agg #[.bool (decide (r.num < 0)), x1, x2], .pointer (some ⟨w.heap.size + 1, 0, none⟩), .agg #[y0, y1, y2], v3, .agg #[.bool (decide (r.num < 0)), x1, x2], .pointer (some ⟨w.heap.size + 1, 3, none⟩), .agg #[y3, y4, y5], undef, undef, undef, undef, undef, undef, undef, undef, undef, undef], []⟩ wv := by
      intro wv v3 hX p3
      have hO1 := hO.out
      have hQ1 := hQ.out
      subst hO1
      subst hQ1
      have XE := hX.out
      refine wpAnyH_ready (rs := [7, 8, 9]) (by kernel_rfl) (by simp) ?_
      refine AllReadyH.cons (o := _) rfl (fun K hK => ?_) (AllReadyH.cons (o := _) rfl (fun K hK => ?_) (AllReadyH.cons (o := _) rfl (fun K hK => ?_) AllReadyH.nil))
      · skip
        go_simp
        go_at_call 100
        refine (HY.out ▸ r5mul_any (HA.out.ext (Ext.trans b1 XE)) (HD.out.ext (Ext.trans b1 XE)) SR.out SB.out).mono ?_
        rintro e wn ⟨vn, rfl, bn, on⟩
        go_wp2_with fail
        refine hK.out _ _ (KP.out _ (Ext.trans XE bn)) (fun _ => ?_)
        clear hK K
        try simp only [Act.put, List.getElem_toArray, List.getElem_cons_succ, List.getElem_cons_zero, List.setIfInBounds_toArray, List.set_cons_zero, List.set_cons_succ]
        exact wpAnyH_to (L2_ wn v3 vn (Ext.trans XE bn) (p3.out.ext bn) (on.mono (Below.size XE))) (by kernel_rfl) (by kernel_rfl) rfl rfl
      · skip
        go_simp
        refine hK.out _ _ (KP.out _ (Ext.trans XE (Ext.alloc wv (.cells [.bool false, .slice none 0 0, .slice none 0 0].toArray 46)))) (fun _ => ?_)
        clear hK K
        try simp only [Act.put, List.getElem_toArray, List.getElem_cons_succ, List.getElem_cons_zero, List.setIfInBounds_toArray, List.set_cons_zero, List.set_cons_succ]
        exact wpAnyH_to (L1_8 _ v3 wv.heap.size (Ext.trans XE (Ext.alloc wv (.cells [.bool false, .slice none 0 0, .slice none 0 0].toArray 46))) (p3.out.ext (Ext.alloc wv (.cells [.bool false, .slice none 0 0, .slice none 0 0].toArray 46))) (Rt.new wv [.bool false, .slice none 0 0, .slice none 0 0] 46) (Below.size XE)) (by kernel_rfl) (by kernel_rfl) rfl rfl
      · skip
        go_simp
        refine hK.out _ _ (KP.out _ (Ext.trans XE (Ext.alloc wv (.cells [.bool false, .slice none 0 0, .slice none 0 0].toArray 46)))) (fun _ => ?_)
        clear hK K
        try simp only [Act.put, List.getElem_toArray, List.getElem_cons_succ, List.getElem_cons_zero, List.setIfInBounds_toArray, List.set_cons_zero, List.set_cons_succ]
        exact wpAnyH_to (L1_9 _ v3 wv.heap.size (Ext.trans XE (Ext.alloc wv (.cells [.bool false, .slice none 0 0, .slice none 0 0].toArray 46))) (p3.out.ext (Ext.alloc wv (.cells [.bool false, .slice none 0 0, .slice none 0 0].toArray 46))) (Rt.new wv [.bool false, .slice none 0 0, .slice none 0 0] 46) (Below.size XE)) (by kernel_rfl) (by kernel_rfl) rfl rfl
    have L0_ : ∀ (wv : World), Hid (Ext w1 wv) → wpAnyH Try.prog .any O Q9 SS 6 #[true, true, true, false, true, true, true, false, false, false, false, false] ⟨#[.agg #[.bool (decide (r.num < 0)), x1, x2], .agg #[y0, y1, y2, y3, y4, y5], .pointer (some ⟨w.heap.size, 0, none⟩), .pointer (some ⟨w.heap.size + 1, 0, none⟩), .pointer (some ⟨w.heap.size + 1 + 1, 0, none⟩), undef, undef, .agg #[.bool (decide (r.num < 0)), x1, x2], .pointer (some ⟨w.heap.size + 1, 0, none⟩), .agg #[y0, y1, y2], undef, .agg #[.bool (decide (r.num < 0)), x1, x2], .pointer (some ⟨w.heap.size + 1, 3, none⟩), .agg #[y3, y4, y5], undef, undef, undef, undef, undef, undef, undef, undef, undef, undef], []⟩ wv := by
      intro wv hX
      have hO1 := hO.out
      have hQ1 := hQ.out
      subst hO1
      subst hQ1
      have XE := hX.out
      refine wpAnyH_ready (rs := [3, 8, 9]) (by kernel_rfl) (by simp) ?_
      refine AllReadyH.cons (o := _) rfl (fun K hK => ?_) (AllReadyH.cons (o := _) rfl (fun K hK => ?_) (AllReadyH.cons (o := _) rfl (fun K hK => ?_) AllReadyH.nil))
      · skip
        go_simp
        go_at_call 100
        refine (HX.out ▸ r5mul_any (HA.out.ext (Ext.trans b1 XE)) (HC.out.ext (Ext.trans b1 XE)) SR.out SA.out).mono ?_
        rintro e wn ⟨vn, rfl, bn, on⟩
        go_wp2_with fail
        refine hK.out _ _ (KP.out _ (Ext.trans XE bn)) (fun _ => ?_)
        clear hK K
        try simp only [Act.put, List.getElem_toArray, List.getElem_cons_succ, List.getElem_cons_zero, List.setIfInBounds_toArray, List.set_cons_zero, List.set_cons_succ]
        exact wpAnyH_to (L1_ wn vn (Ext.trans XE bn) (on.mono (Below.size XE))) (by kernel_rfl) (by kernel_rfl) rfl rfl
      · skip
        go_simp
        refine hK.out _ _ (KP.out _ (Ext.trans XE (Ext.alloc wv (.cells [.bool false, .slice none 0 0, .slice none 0 0].toArray 46)))) (fun _ => ?_)
        clear hK K
        try simp only [Act.put, List.getElem_toArray, List.getElem_cons_succ, List.getElem_cons_zero, List.setIfInBounds_toArray, List.set_cons_zero, List.set_cons_succ]
        exact wpAnyH_to (L0_8 _ wv.heap.size (Ext.trans XE (Ext.alloc wv (.cells [.bool false, .slice none 0 0, .slice none 0 0].toArray 46))) (Rt.new wv [.bool false, .slice none 0 0, .slice none 0 0] 46) (Below.size XE)) (by kernel_rfl) (by kernel_rfl) rfl rfl
      · skip
        go_simp
        refine hK.out _ _ (KP.out _ (Ext.trans XE (Ext.alloc wv (.cells [.bool false, .slice none 0 0, .slice none 0 0].toArray 46)))) (fun _ => ?_)
        clear hK K
        try simp only [Act.put, List.getElem_toArray, List.getElem_cons_succ, List.getElem_cons_zero, List.setIfInBounds_toArray, List.set_cons_zero, List.set_cons_succ]
        exact wpAnyH_to (L0_9 _ wv.heap.size (Ext.trans XE (Ext.alloc wv (.cells [.bool false, .slice none 0 0, .slice none 0 0].toArray 46))) (Rt.new wv [.bool false, .slice none 0 0, .slice none 0 0] 46) (Below.size XE)) (by kernel_rfl) (by kernel_rfl) rfl rfl
    have hO1 := hO.out
    have hQ1 := hQ.out
    subst hO1
    subst hQ1
    have hS1 := hSS.out
    subst hS1
    refine wp_region_held_drew (S := fun w' => (w'.cell? ⟨w.heap.size, 0, none⟩ = some (.bool (decide (r.num < 0))) ∧ w'.cell? ⟨w.heap.size, 1, none⟩ = some (x1) ∧ w'.cell? ⟨w.heap.size, 2, none⟩ = some (x2)) ∧ (w'.cell? ⟨w.heap.size + 1, 0, none⟩ = some (y0) ∧ w'.cell? ⟨w.heap.size + 1, 1, none⟩ = some (y1) ∧ w'.cell? ⟨w.heap.size + 1, 2, none⟩ = some (y2) ∧ w'.cell? ⟨w.heap.size + 1, 3, none⟩ = some (y3) ∧ w'.cell? ⟨w.heap.size + 1, 4, none⟩ = some (y4) ∧ w'.cell? ⟨w.heap.size + 1, 5, none⟩ = some (y5))) (by kernel_rfl) (⟨(C1.out.ext (drew_ext w1)).c3, (C2.out.ext (drew_ext w1)).c6⟩) (fun hHeld => ?_)
    refine wpAnyH_take (i := 0) (v := ?_) rfl (by kernel_rfl) (by kernel_rfl) (by kernel_rfl) (fun _ _ _ h => h) (Or.inl ⟨by rfl, fun w0 hSw => ?_⟩) hHeld ?_
    rotate_left
    · (try dsimp only at hSw)
      go_simp
      try with_reducible rfl
    simp only [Act.put, List.getElem_toArray, List.getElem_cons_succ, List.getElem_cons_zero, List.setIfInBounds_toArray, List.set_cons_zero, List.set_cons_succ]
    refine wpAnyH_take (i := 1) (v := ?_) rfl (by kernel_rfl) (by kernel_rfl) (by kernel_rfl) (fun _ _ _ h => h) (Or.inl ⟨by rfl, fun w0 hSw => ?_⟩) hHeld ?_
    rotate_left
    · (try dsimp only at hSw)
      go_simp
      try with_reducible rfl
    simp only [Act.put, List.getElem_toArray, List.getElem_cons_succ, List.getElem_cons_zero, List.setIfInBounds_toArray, List.set_cons_zero, List.set_cons_succ]
    refine wpAnyH_take (i := 2) (v := ?_) rfl (by kernel_rfl) (by kernel_rfl) (by kernel_rfl) (fun _ _ _ h => h) (Or.inl ⟨by rfl, fun w0 hSw => ?_⟩) hHeld ?_
    rotate_left
    · (try dsimp only at hSw)
      go_simp
      try with_reducible rfl
    simp only [Act.put, List.getElem_toArray, List.getElem_cons_succ, List.getElem_cons_zero, List.setIfInBounds_toArray, List.set_cons_zero, List.set_cons_succ]
    refine wpAnyH_take (i := 4) (v := ?_) rfl (by kernel_rfl) (by kernel_rfl) (by kernel_rfl) (fun _ _ _ h => h) (Or.inl ⟨by rfl, fun w0 hSw => ?_⟩) hHeld ?_
    rotate_left
    · (try dsimp only at hSw)
      go_simp
      try with_reducible rfl
    simp only [Act.put, List.getElem_toArray, List.getElem_cons_succ, List.getElem_cons_zero, List.setIfInBounds_toArray, List.set_cons_zero, List.set_cons_succ]
    refine wpAnyH_take (i := 5) (v := ?_) rfl (by kernel_rfl) (by kernel_rfl) (by kernel_rfl) (fun _ _ _ h => h) (Or.inl ⟨by rfl, fun w0 hSw => ?_⟩) hHeld ?_
    rotate_left
    · (try dsimp only at hSw)
      go_simp
      try with_reducible rfl
    simp only [Act.put, List.getElem_toArray, List.getElem_cons_succ, List.getElem_cons_zero, List.setIfInBounds_toArray, List.set_cons_zero, List.set_cons_succ]
    refine wpAnyH_take (i := 6) (v := ?_) rfl (by kernel_rfl) (by kernel_rfl) (by kernel_rfl) (fun _ _ _ h => h) (Or.inl ⟨by rfl, fun w0 hSw => ?_⟩) hHeld ?_
    rotate_left
    · (try dsimp only at hSw)
      go_simp
      try with_reducible rfl
    simp only [Act.put, List.getElem_toArray, List.getElem_cons_succ, List.getElem_cons_zero, List.setIfInBounds_toArray, List.set_cons_zero, List.set_cons_succ]
    exact wpAnyH_to (L0_ w1.drew (drew_ext w1)) (by kernel_rfl) (by kernel_rfl) rfl rfl
  case rest =>
    obtain ⟨B, C, n, d, n', d', rfl, rfl, hB, hC, hT⟩ := hcut
    generalize wc = w2 at *
    obtain ⟨b2, k1, k2, ⟨n1, d1, he1, on, od⟩, ⟨n2, d2, he2, om, oc⟩, hBC, rB, rC, sB, sC⟩ := hT.out
    obtain ⟨rfl, rfl⟩ : n = n1 ∧ d = d1 := by simpa using he1
    obtain ⟨rfl, rfl⟩ : n' = n2 ∧ d' = d2 := by simpa using he2
    obtain ⟨an, cn, rfl, -, -, -, -⟩ := on.rd.shape
    obtain ⟨ad, cd, rfl, -, -, -, -⟩ := od.rd.shape
    obtain ⟨am, cm, rfl, -, -, -, -⟩ := om.rd.shape
    obtain ⟨ac, cc, rfl, -, -, -, -⟩ := oc.rd.shape
    have K1 := Lib.hid k1
    have K2 := Lib.hid k2
    have ON := Lib.hid on
    have OD := Lib.hid od
    have OM := Lib.hid om
    have OC := Lib.hid oc
    have RB := Lib.hid rB
    have RC := Lib.hid rC
    have HBC := Lib.hid hBC
    have SB8 := Lib.hid sB
    have SC9 := Lib.hid sC
    have QX : Hid (RdP w2 (.agg #[.bool (decide (x.num < 0)), .slice an (bitsOf x.num.natAbs).length cn, .slice ad (bitsOf x.den).length cd]) x) := ⟨_, _, rfl, on.rd, od.rd⟩
    have QY : Hid (RdP w2 (.agg #[.bool (decide (y.num < 0)), .slice am (bitsOf y.num.natAbs).length cm, .slice ac (bitsOf y.den).length cc]) y) := ⟨_, _, rfl, om.rd, oc.rd⟩
    clear hT he1 he2 on od om oc rB rC hBC sB sC C1 C2
    obtain ⟨k10, k11, k12⟩ := k1
    obtain ⟨k20, k21, k22⟩ := k2
    go_wp2_with fail
    clear k10 k11 k12 k20 k21 k22
    refine (r5cmp_any QX.out QY.out SX.out SY.out).mono ?_
    rintro e w3 ⟨_, rfl, b3, rfl⟩
    obtain ⟨k10, k11, k12⟩ := K1.out.ext b3
    obtain ⟨k20, k21, k22⟩ := K2.out.ext b3
    have e1 : 0 < (x - y).num.sign → mn x y = y := fun h => by unfold mn; rw [if_neg (by omega)]
    have e2 : 0 < (x - y).num.sign → mx x y = x := fun h => by unfold mx; rw [if_pos (by omega)]
    have e3 : ¬ 0 < (x - y).num.sign → mn x y = x := fun h => by unfold mn; rw [if_pos (by omega)]
    have e4 : ¬ 0 < (x - y).num.sign → y = mx x y := mx_alt
    generalize (x - y).num.sign = t at *
    by_cases h : 0 < t
    · rw [e1 h, e2 h] at hR
      have ht : decide (0 < t) = true := decide_eq_true h
      clear e1 e2 e3 e4 h
      obtain ⟨_, _, _, i0, i1, i2, f0, f1, f2⟩ := (RB.out.rm.room3.ext b3).cells
      obtain ⟨_, _, _, l0, l1, l2, m0, m1, m2⟩ := (RC.out.rm.room3.ext b3).cells
      have hne := HBC.out
      have hne' := Ne.symm hne
      go_upto_region 4 with (fail)
      have T4 := TwoP.put (e := 4) (t := 46) (x := y) (y := x) (by decide) (Ext.trans b2 b3) (RB.out.ext b3) (RC.out.ext b3) SB8.out SC9.out HBC.out ⟨_, _, rfl, OM.out.ext b3, OC.out.ext b3⟩ ⟨_, _, rfl, ON.out.ext b3, OD.out.ext b3⟩
      obtain ⟨w4, hw4⟩ : ∃ w4, w4 = put3 (put3 w3 B (.bool (decide (y.num < 0))) (.slice am (bitsOf y.num.natAbs).length cm) (.slice ac (bitsOf y.den).length cc)) C (.bool (decide (x.num < 0))) (.slice an (bitsOf x.num.natAbs).length cn) (.slice ad (bitsOf x.den).length cd) := ⟨_, rfl⟩
      rw [← hw4] at T4
      show Code.wp _ _ _ _ (put3 (put3 w3 B (.bool (decide (y.num < 0))) (.slice am (bitsOf y.num.natAbs).length cm) (.slice ac (bitsOf y.den).length cc)) C (.bool (decide (x.num < 0))) (.slice an (bitsOf x.num.natAbs).length cn) (.slice ad (bitsOf x.den).length cd))
      rw [← hw4]
      clear hw4 i0 i1 i2 l0 l1 l2 m0 m1 m2 f0 f1 f2 k10 k11 k12 k20 k21 k22
      obtain ⟨b4, ⟨k10, k11, k12⟩, ⟨k20, k21, k22⟩, ⟨_, _, q1, ou, ov⟩, ⟨_, _, q2, og, oh⟩, -, -, -, -, -⟩ := T4
      obtain ⟨rfl, rfl⟩ := by simpa using q1
      obtain ⟨rfl, rfl⟩ := by simpa using q2
      have OU := Lib.hid ou
      have OV := Lib.hid ov
      have OG := Lib.hid og
      have OH := Lib.hid oh
      clear ou ov og oh q1 q2
      obtain ⟨_, _, _, _, _, _, j0, j1, j2, j3, j4, j5, g0, g1, g2, g3, g4, g5⟩ := (RR.out.ext b4).c6
      go_wp2_with fail
      refine bodyPost_ret (v := .agg #[.bool (decide (y.num < 0)), .slice am (bitsOf y.num.natAbs).length cm, .slice ac (bitsOf y.den).length cc, .bool (decide (x.num < 0)), .slice an (bitsOf x.num.natAbs).length cn, .slice ad (bitsOf x.den).length cd]) (by simp [results, Try.results84, go_sem, j0, j1, j2, j3, j4, j5]) rfl ?_
      exact hR.out _ _ (Gives.mk (put6_below (Ext.trans b1 b4) (by omega) _ _ _ _ _ _) ⟨_, _, _, _, rfl, (OU.out.put6 (Ext.refl _) (.inl (by have := SZ.out; omega)) _ _ _ _ _ _).mono (by have := SZ.out; omega), (OV.out.put6 (Ext.refl _) (.inl (by have := SZ.out; omega)) _ _ _ _ _ _).mono (by have := SZ.out; omega), (OG.out.put6 (Ext.refl _) (.inl (by have := SZ.out; omega)) _ _ _ _ _ _).mono (by have := SZ.out; omega), (OH.out.put6 (Ext.refl _) (.inl (by have := SZ.out; omega)) _ _ _ _ _ _).mono (by have := SZ.out; omega)⟩)
    · rw [e3 h, ← e4 h] at hR
      have ht : decide (0 < t) = false := decide_eq_false h
      obtain ⟨_, _, _, _, _, _, j0, j1, j2, j3, j4, j5, g0, g1, g2, g3, g4, g5⟩ := (RR.out.ext (Ext.trans b2 b3)).c6
      clear e1 e2 e3 e4 h
      go_wp2_with fail
      refine bodyPost_ret (v := .agg #[.bool (decide (x.num < 0)), .slice an (bitsOf x.num.natAbs).length cn, .slice ad (bitsOf x.den).length cd, .bool (decide (y.num < 0)), .slice am (bitsOf y.num.natAbs).length cm, .slice ac (bitsOf y.den).length cc]) (by simp [results, Try.results84, go_sem, j0, j1, j2, j3, j4, j5]) rfl ?_
      exact hR.out _ _ (Gives.mk (put6_below (Ext.trans b1 (Ext.trans b2 b3)) (by omega) _ _ _ _ _ _) ⟨_, _, _, _, rfl, ((ON.out.ext b3).put6 (Ext.refl _) (.inl (by have := SZ.out; omega)) _ _ _ _ _ _).mono (by have := SZ.out; omega), ((OD.out.ext b3).put6 (Ext.refl _) (.inl (by have := SZ.out; omega)) _ _ _ _ _ _).mono (by have := SZ.out; omega), ((OM.out.ext b3).put6 (Ext.refl _) (.inl (by have := SZ.out; omega)) _ _ _ _ _ _).mono (by have := SZ.out; omega), ((OC.out.ext b3).put6 (Ext.refl _) (.inl (by have := SZ.out; omega)) _ _ _ _ _ _).mono (by have := SZ.out; omega)⟩)
end Go.Proofs.Ytnbbhpihlcglgaa

/- span.Max -/
namespace Go.Proofs.Ytnbbhpihlcglgaa
open Go.RowKit Go.Att

/-- The greatest ones, end by end, from p on. -/
def mxs (l : List (Rat × Rat)) (p : Rat × Rat) : Rat × Rat := l.foldl (fun m s => (mx m.1 s.1, mx m.2 s.2)) p
theorem mxs_take {l : List (Rat × Rat)} {k : Nat} (h : k < l.length) (p : Rat × Rat) : mxs (l.take (k + 1)) p = (mx (mxs (l.take k) p).1 l[k].1, mx (mxs (l.take k) p).2 l[k].2) := by
  unfold mxs
  rw [← List.take_append_getElem h, List.foldl_append]
  rfl
theorem mx_cases (R : Rat → Prop) {p q : Rat} (hp : R p) (hq : R q) : R (mx p q) := by
  unfold mx
  split
  · exact hp
  · exact hq
theorem mxs_all (R : Rat → Prop) : ∀ (l : List (Rat × Rat)) (p : Rat × Rat), (R p.1 ∧ R p.2) → (∀ s ∈ l, R s.1 ∧ R s.2) → R (mxs l p).1 ∧ R (mxs l p).2
  | [], _, h, _ => h
  | s :: l, _, h, hl => mxs_all R l _ ⟨mx_cases R h.1 (hl s (List.mem_cons_self ..)).1, mx_cases R h.2 (hl s (List.mem_cons_self ..)).2⟩ fun x hx => hl x (List.mem_cons_of_mem _ hx)


theorem smax_no {w : World} {v : Value} (hv : RdRow 6 RdDp w v []) :
    Calls Try.prog 117 #[v] w (Gives w fun v' _ => v' = .tuple #[.agg #[.bool false, .slice none 0 0, .slice none 0 0, .bool false, .slice none 0 0, .slice none 0 0], .bool false]) := by
  refine via fun R hR => ?_
  obtain ⟨a, c, rfl, hlc, hcm⟩ := hv.shape
  clear hv
  go_enter Try.func117, Try.ntmps117
  go_wp2_with fail
  refine bodyPost_ret (v := .tuple #[.agg #[.bool false, .slice none 0 0, .slice none 0 0, .bool false, .slice none 0 0, .slice none 0 0], .bool false]) (by simp [results, Try.results117, go_sem]) rfl ?_
  exact hR.out _ _ (Gives.mk (Ext.alloc _ _) rfl)

set_option maxHeartbeats 2000000 in
set_option linter.unusedSimpArgs false in
theorem smax_any {w : World} {v : Value} {l : List (Rat × Rat)} (hv : RdRow 6 RdDp w v l) (h0 : 0 < l.length) (hs : ∀ p ∈ l, Sz 1000000 p.1 ∧ Sz 1000000 p.2) :
    Calls Try.prog 117 #[v] w (Gives w fun v' w' => ∃ o, v' = .tuple #[o, .bool true] ∧ RdD w' o (mxs l l[0]).1 (mxs l l[0]).2) := by
  refine via fun R hR => ?_
  have HS := Lib.hid hs
  obtain ⟨a, c, rfl, hlc, hcm⟩ := hv.shape
  have HV := Lib.hid hv
  unfold maxLen at hcm
  obtain ⟨b, off, cs, rfl, hcl, hT, hc⟩ := hv.at (by decide) 0 h0
  obtain ⟨z0, z1, z2, z3, z4, z5, rfl, hz1, hz2⟩ := cells_D hT
  have HZ : Hid (RdD w (.agg #[z0, z1, z2, z3, z4, z5]) l[0].1 l[0].2) := hT
  obtain ⟨_, _, _, _, _, _, _, rfl, rfl, rfl⟩ := RdQ.op3 hz1
  obtain ⟨_, _, _, _, _, _, _, rfl, rfl, rfl⟩ := RdQ.op3 hz2
  obtain ⟨w1, hw1, b1, -, r1, -⟩ := bx1 w [.bool false, .slice none 0 0, .slice none 0 0, .bool false, .slice none 0 0, .slice none 0 0] 34
  have HW := Lib.hid hw1
  have R1 : Hid (Rm w1 w.heap.size 6) := r1
  have e0 := Ext.cell b1 (hc 0 (by decide))
  have e1 := Ext.cell b1 (hc 1 (by decide))
  have e2 := Ext.cell b1 (hc 2 (by decide))
  have e3 := Ext.cell b1 (hc 3 (by decide))
  have e4 := Ext.cell b1 (hc 4 (by decide))
  have e5 := Ext.cell b1 (hc 5 (by decide))
  simp only [List.getElem?_cons_zero, List.getElem?_cons_succ, Nat.add_zero, Nat.zero_mul] at e0 e1 e2 e3 e4 e5
  have hne : ((l.length : Int) == 0) = false := beq_false_of_ne (by omega)
  clear hv hs hT hz1 hz2 hc hw1 r1
  go_enter Try.func117, Try.ntmps117
  go_upto_region 3 with (fail)
  rw [← HW.out]
  clear HW
  go_wp2_with fail
  clear e0 e1 e2 e3 e4 e5
  go_loopw [16] (fun i wr => ∃ (k : Nat) (x0 x1 x2 x3 x4 x5 : Value), i = .int .i64 k ∧ k ≤ l.length ∧ Ext w1 wr ∧ Hid (Bx wr w1.heap.size [x0, x1, x2, x3, x4, x5]) ∧ Hid (Rm wr w1.heap.size 6) ∧ Hid (RdD w (.agg #[x0, x1, x2, x3, x4, x5]) (mxs (l.take k) l[0]).1 (mxs (l.take k) l[0]).2)) (fun i _ => l.length - (intOf i).toNat)
  case atStart => exact ⟨0, _, _, _, _, _, _, rfl, Nat.zero_le _, Ext.alloc _ _, Bx.new w1 [_, _, _, _, _, _] _, Rm.new w1 [_, _, _, _, _, _] _, by rw [List.take_zero]; exact HZ.out⟩
  case round =>
    obtain ⟨k, x0, x1, x2, x3, x4, x5, rfl, hk, hx, hB, hM, hD⟩ := hrel
    have b2 := hx
    generalize wr = w2 at *
    have hsz := hx.size
    by_cases hlt : k < l.length
    · obtain ⟨b', off', cs, hb', hcl, hT, hc⟩ := HV.out.at (by decide) k hlt
      simp only [Option.some.injEq, Addr.mk.injEq, and_true] at hb'
      obtain ⟨rfl, rfl⟩ := hb'
      obtain ⟨y0, y1, y2, y3, y4, y5, rfl, hy1, hy2⟩ := cells_D hT
      obtain ⟨s0, a1, n1, c1, a2, n2, c2, rfl, rfl, rfl⟩ := RdQ.op3 hy1
      obtain ⟨s3, a4, n4, c4, a5, n5, c5, rfl, rfl, rfl⟩ := RdQ.op3 hy2
      obtain ⟨s1, s2⟩ := HS.out l[k] (List.getElem_mem hlt)
      obtain ⟨r1, r2⟩ := mxs_all (Sz 1000000) (l.take k) l[0] (HS.out _ (List.getElem_mem h0)) (fun _ h => HS.out _ (List.mem_of_mem_take h))
      have HK := Lib.hid (mxs_take hlt l[0])
      generalize mxs (l.take k) l[0] = m at *
      generalize l[k] = y at *
      obtain ⟨p0, p1, p2, hA, hcA⟩ := max_cells (RdD.fst3 hD.out) hy1 (r1.le (by decide)) (s1.le (by decide))
      obtain ⟨q0, q1, q2, hB', hcB⟩ := max_cells (RdD.snd3 hD.out) hy2 (r2.le (by decide)) (s2.le (by decide))
      have HA := Lib.hid hA
      have HB := Lib.hid hB'
      have HCA := Lib.hid hcA
      have HCB := Lib.hid hcB
      obtain ⟨_, _, _, _, _, _, _, rfl, rfl, rfl⟩ := RdQ.op3 hA
      obtain ⟨_, _, _, _, _, _, _, rfl, rfl, rfl⟩ := RdQ.op3 hB'
      have b02 := Ext.trans b1 b2
      have e0 := Ext.cell b02 (hc 0 (by decide))
      have e1 := Ext.cell b02 (hc 1 (by decide))
      have e2 := Ext.cell b02 (hc 2 (by decide))
      have e3 := Ext.cell b02 (hc 3 (by decide))
      have e4 := Ext.cell b02 (hc 4 (by decide))
      have e5 := Ext.cell b02 (hc 5 (by decide))
      simp only [List.getElem?_cons_zero, List.getElem?_cons_succ, Nat.add_zero] at e0 e1 e2 e3 e4 e5
      obtain ⟨w3, hw3, b3, c3, -, -⟩ := bx1 w2 [.bool s0, .slice a1 n1 c1, .slice a2 n2 c2, .bool s3, .slice a4 n4 c4, .slice a5 n5 c5] 34
      have HW := Lib.hid hw3
      have C3 := Lib.hid c3
      have CM := Lib.hid (hB.out.ext b3)
      have RM := Lib.hid (hM.out.ext b3)
      clear hT hc hy1 hy2 s1 s2 r1 r2 hA hB' hcA hcB hw3 c3 hB hM
      go_upto_region 7 with (fail)
      rw [← HW.out]
      clear HW e0 e1 e2 e3 e4 e5 hcl
      generalize Value.bool s0 = y0 at *
      generalize Value.slice a1 n1 c1 = y1 at *
      generalize Value.slice a2 n2 c2 = y2 at *
      generalize Value.bool s3 = y3 at *
      generalize Value.slice a4 n4 c4 = y4 at *
      generalize Value.slice a5 n5 c5 = y5 at *
      have b4 := drew_ext w3
      have XE := b4
      refine wp_region_noPanic ?_
      refine wp_region_last_drew (st := 11) (S := fun w' => (w'.cell? ⟨w1.heap.size, 0, none⟩ = some (x0) ∧ w'.cell? ⟨w1.heap.size, 1, none⟩ = some (x1) ∧ w'.cell? ⟨w1.heap.size, 2, none⟩ = some (x2) ∧ w'.cell? ⟨w1.heap.size, 3, none⟩ = some (x3) ∧ w'.cell? ⟨w1.heap.size, 4, none⟩ = some (x4) ∧ w'.cell? ⟨w1.heap.size, 5, none⟩ = some (x5)) ∧ (w'.cell? ⟨w2.heap.size, 0, none⟩ = some (y0) ∧ w'.cell? ⟨w2.heap.size, 1, none⟩ = some (y1) ∧ w'.cell? ⟨w2.heap.size, 2, none⟩ = some (y2) ∧ w'.cell? ⟨w2.heap.size, 3, none⟩ = some (y3) ∧ w'.cell? ⟨w2.heap.size, 4, none⟩ = some (y4) ∧ w'.cell? ⟨w2.heap.size, 5, none⟩ = some (y5))) (by kernel_rfl) (⟨(CM.out.ext XE).c6, (C3.out.ext XE).c6⟩) (fun hHeld => ?_)
      refine wpAnyL_take (i := 0) (v := ?_) rfl (by kernel_rfl) (by kernel_rfl) (by kernel_rfl) (by kernel_rfl) (fun _ _ _ h => h) (Or.inl ⟨by rfl, fun w0 hSw => ?_⟩) hHeld ?_
      rotate_left
      · (try dsimp only at hSw)
        go_simp
        try with_reducible rfl
      simp only [Act.put, List.getElem_toArray, List.getElem_cons_succ, List.getElem_cons_zero, List.setIfInBounds_toArray, List.set_cons_zero, List.set_cons_succ]
      refine wpAnyL_take (i := 1) (v := ?_) rfl (by kernel_rfl) (by kernel_rfl) (by kernel_rfl) (by kernel_rfl) (fun _ _ _ h => h) (Or.inl ⟨by rfl, fun w0 hSw => ?_⟩) hHeld ?_
      rotate_left
      · (try dsimp only at hSw)
        go_simp
        try with_reducible rfl
      simp only [Act.put, List.getElem_toArray, List.getElem_cons_succ, List.getElem_cons_zero, List.setIfInBounds_toArray, List.set_cons_zero, List.set_cons_succ]
      refine wpAnyL_take (i := 2) (v := ?_) rfl (by kernel_rfl) (by kernel_rfl) (by kernel_rfl) (by kernel_rfl) (fun _ _ _ h => h) (Or.inl ⟨by rfl, fun w0 hSw => ?_⟩) hHeld ?_
      rotate_left
      · (try dsimp only at hSw)
        go_simp
        try with_reducible rfl
      simp only [Act.put, List.getElem_toArray, List.getElem_cons_succ, List.getElem_cons_zero, List.setIfInBounds_toArray, List.set_cons_zero, List.set_cons_succ]
      refine wpAnyL_take (i := 3) (v := ?_) rfl (by kernel_rfl) (by kernel_rfl) (by kernel_rfl) (by kernel_rfl) (fun _ _ _ h => h) (Or.inl ⟨by rfl, fun w0 hSw => ?_⟩) hHeld ?_
      rotate_left
      · (try dsimp only at hSw)
        go_simp
        try with_reducible rfl
      simp only [Act.put, List.getElem_toArray, List.getElem_cons_succ, List.getElem_cons_zero, List.setIfInBounds_toArray, List.set_cons_zero, List.set_cons_succ]
      refine wpAnyL_take (i := 5) (v := ?_) rfl (by kernel_rfl) (by kernel_rfl) (by kernel_rfl) (by kernel_rfl) (fun _ _ _ h => h) (Or.inl ⟨by rfl, fun w0 hSw => ?_⟩) hHeld ?_
      rotate_left
      · (try dsimp only at hSw)
        go_simp
        try with_reducible rfl
      simp only [Act.put, List.getElem_toArray, List.getElem_cons_succ, List.getElem_cons_zero, List.setIfInBounds_toArray, List.set_cons_zero, List.set_cons_succ]
      refine wpAnyL_take (i := 6) (v := ?_) rfl (by kernel_rfl) (by kernel_rfl) (by kernel_rfl) (by kernel_rfl) (fun _ _ _ h => h) (Or.inl ⟨by rfl, fun w0 hSw => ?_⟩) hHeld ?_
      rotate_left
      · (try dsimp only at hSw)
        go_simp
        try with_reducible rfl
      simp only [Act.put, List.getElem_toArray, List.getElem_cons_succ, List.getElem_cons_zero, List.setIfInBounds_toArray, List.set_cons_zero, List.set_cons_succ]
      refine wpAnyL_take (i := 7) (v := ?_) rfl (by kernel_rfl) (by kernel_rfl) (by kernel_rfl) (by kernel_rfl) (fun _ _ _ h => h) (Or.inl ⟨by rfl, fun w0 hSw => ?_⟩) hHeld ?_
      rotate_left
      · (try dsimp only at hSw)
        go_simp
        try with_reducible rfl
      simp only [Act.put, List.getElem_toArray, List.getElem_cons_succ, List.getElem_cons_zero, List.setIfInBounds_toArray, List.set_cons_zero, List.set_cons_succ]
      refine wpAnyL_take (i := 8) (v := ?_) rfl (by kernel_rfl) (by kernel_rfl) (by kernel_rfl) (by kernel_rfl) (fun _ _ _ h => h) (Or.inl ⟨by rfl, fun w0 hSw => ?_⟩) hHeld ?_
      rotate_left
      · (try dsimp only at hSw)
        go_simp
        try with_reducible rfl
      simp only [Act.put, List.getElem_toArray, List.getElem_cons_succ, List.getElem_cons_zero, List.setIfInBounds_toArray, List.set_cons_zero, List.set_cons_succ]
      refine wpAnyL_ready (rs := [4]) (by kernel_rfl) (by simp) ?_
      refine AllReadyL.cons (o := _) rfl (fun K hK => ?_) AllReadyL.nil
      go_simp
      go_at_call 123; refine (HCA.out _ (Ext.trans b02 (Ext.trans b3 XE))).mono ?_; rintro e w5 ⟨_, rfl, b5, rfl⟩; (first | have XE := Ext.trans XE b5 | have XE := Ext.trans (Ext.trans XE (Ext.alloc _ _)) b5)
      go_wp2_with fail
      refine hK.out _ _ (⟨(CM.out.ext XE).c6, (C3.out.ext XE).c6⟩) (fun hHeld => ?_)
      clear hK K
      try simp only [Act.put, List.getElem_toArray, List.getElem_cons_succ, List.getElem_cons_zero, List.setIfInBounds_toArray, List.set_cons_zero, List.set_cons_succ]
      refine wpAnyL_ready (rs := [9]) (by kernel_rfl) (by simp) ?_
      refine AllReadyL.cons (o := _) rfl (fun K hK => ?_) AllReadyL.nil
      go_simp
      go_at_call 123; refine (HCB.out _ (Ext.trans b02 (Ext.trans b3 XE))).mono ?_; rintro e w6 ⟨_, rfl, b6, rfl⟩; (first | have XE := Ext.trans XE b6 | have XE := Ext.trans (Ext.trans XE (Ext.alloc _ _)) b6)
      go_wp2_with fail
      refine hK.out _ _ (⟨(CM.out.ext XE).c6, (C3.out.ext XE).c6⟩) (fun hHeld => ?_)
      clear hK K
      try simp only [Act.put, List.getElem_toArray, List.getElem_cons_succ, List.getElem_cons_zero, List.setIfInBounds_toArray, List.set_cons_zero, List.set_cons_succ]
      refine wpAnyL_take (i := 10) (v := ?_) rfl (by kernel_rfl) (by kernel_rfl) (by kernel_rfl) (by kernel_rfl) (fun _ _ _ h => h) (Or.inl ⟨by rfl, fun w0 hSw => ?_⟩) hHeld ?_
      rotate_left
      · (try dsimp only at hSw)
        go_simp
        try with_reducible rfl
      simp only [Act.put, List.getElem_toArray, List.getElem_cons_succ, List.getElem_cons_zero, List.setIfInBounds_toArray, List.set_cons_zero, List.set_cons_succ]
      obtain ⟨_, _, _, _, _, _, j0, j1, j2, j3, j4, j5, g0, g1, g2, g3, g4, g5⟩ := (RM.out.ext XE).c6
      refine wpAnyL_ready (rs := [11]) (by kernel_rfl) (by simp) ?_
      refine AllReadyL.last (o := _) rfl (fun K hK => ?_)
      go_simp
      refine hK.out _ _ ?_
      clear hK K
      try simp only [Act.put, List.getElem_toArray, List.getElem_cons_succ, List.getElem_cons_zero, List.setIfInBounds_toArray, List.set_cons_zero, List.set_cons_succ]
      refine wpAnyL_done (by kernel_rfl) ?_ _
      refine NoPanic.normal ?_
      go_wp2_with fail
      go_roundw
      case rel =>
        have X := Ext.trans b3 XE
        exact ⟨k + 1, _, _, _, _, _, _, by go_num, by omega, put6_below (Ext.trans b2 X) (Nat.le_refl _) _ _ _ _ _ _, (Bx.putL_at (RM.out.ext XE) [_, _, _, _, _, _] rfl).1, (Bx.putL_at (RM.out.ext XE) [_, _, _, _, _, _] rfl).2, by rw [HK.out]; exact ⟨_, _, _, _, _, _, rfl, HA.out, HB.out⟩⟩
      case measure => simp [intOf] <;> omega
    · obtain rfl : k = l.length := by omega
      have HX : Hid (mxs (l.take l.length) l[0] = mxs l l[0]) := by show _ = _; rw [List.take_length]
      obtain ⟨k0, k1, k2, k3, k4, k5⟩ := hB.out.c6
      obtain ⟨s0, a1, n1, c1, a2, n2, c2, s3, a4, n4, c4, a5, n5, c5, hsh, -⟩ := RdD.op hD.out
      simp only [Value.agg.injEq, Array.mk.injEq, List.cons.injEq, and_true] at hsh
      obtain ⟨rfl, rfl, rfl, rfl, rfl, rfl⟩ := hsh
      obtain ⟨_, _, _, _, _, _, j0, j1, j2, j3, j4, j5, g0, g1, g2, g3, g4, g5⟩ := (R1.out.ext hx).c6
      go_wp2_with fail
      refine bodyPost_ret (v := .tuple #[.agg #[.bool s0, .slice a1 n1 c1, .slice a2 n2 c2, .bool s3, .slice a4 n4 c4, .slice a5 n5 c5], .bool true]) (by simp [results, Try.results117, go_sem, j0, j1, j2, j3, j4, j5]) rfl ?_
      exact hR.out _ _ (Gives.mk (put6_below (Ext.trans b1 b2) (Nat.le_refl _) _ _ _ _ _ _) ⟨_, rfl, by rw [← HX.out]; exact hD.out.ext (put6_below (Ext.trans b1 b2) (Nat.le_refl _) _ _ _ _ _ _)⟩)
end Go.Proofs.Ytnbbhpihlcglgaa

/- attestref17.Max -/
namespace Go.Proofs.Ytnbbhpihlcglgaa
open Go.RowKit Go.Att

theorem top_cells {w : World} {x0 x1 x2 y0 y1 y2 : Value} {a b : Rat} (h1 : RdP w (.agg #[x0, x1, x2]) a) (h2 : RdP w (.agg #[y0, y1, y2]) b) (sa : Sb 50000 a) (sb : Sb 50000 b) :
    ∃ z0 z1 z2, RdP w (.agg #[z0, z1, z2]) (mx a b) ∧ ∀ w', Ext w w' → Calls Try.prog 145 #[.agg #[x0, x1, x2], .agg #[y0, y1, y2]] w' (Gives w' fun v' _ => v' = .agg #[z0, z1, z2]) := by
  unfold mx
  by_cases h : 0 ≤ (a - b).num.sign
  · rw [if_pos h]
    exact ⟨x0, x1, x2, h1, fun _ X => by have := top_val (h1.ext X) (h2.ext X) sa sb; rw [if_pos h] at this; exact this⟩
  · rw [if_neg h]
    exact ⟨y0, y1, y2, h2, fun _ X => by have := top_val (h1.ext X) (h2.ext X) sa sb; rw [if_neg h] at this; exact this⟩

set_option maxHeartbeats 2000000 in
set_option linter.unusedSimpArgs false in
theorem r17max_any {w : World} {v : Value} {l : List (Rat × Rat)} (hv : RdRow 6 RdEp w v l) (h0 : 0 < l.length) (hs : ∀ p ∈ l, Sb 50000 p.1 ∧ Sb 50000 p.2) :
    Calls Try.prog 119 #[v] w (Gives w fun v' w' => RdE w' v' (mxs l l[0]).1 (mxs l l[0]).2) := by
  refine via fun R hR => ?_
  have HS := Lib.hid hs
  obtain ⟨a, c, rfl, hlc, hcm⟩ := hv.shape
  have HV := Lib.hid hv
  unfold maxLen at hcm
  obtain ⟨b, off, cs, rfl, hcl, hT, hc⟩ := hv.at (by decide) 0 h0
  obtain ⟨z0, z1, z2, z3, z4, z5, rfl, hz1, hz2⟩ := cells_E hT
  have HZ : Hid (RdE w (.agg #[z0, z1, z2, z3, z4, z5]) l[0].1 l[0].2) := hT
  obtain ⟨_, _, _, _, _, _, _, rfl, rfl, rfl⟩ := RdP.op3 hz1
  obtain ⟨_, _, _, _, _, _, _, rfl, rfl, rfl⟩ := RdP.op3 hz2
  obtain ⟨w1, hw1, b1, -, r1, -⟩ := bx1 w [.bool false, .slice none 0 0, .slice none 0 0, .bool false, .slice none 0 0, .slice none 0 0] 48
  have HW := Lib.hid hw1
  have R1 : Hid (Rm w1 w.heap.size 6) := r1
  have e0 := Ext.cell b1 (hc 0 (by decide))
  have e1 := Ext.cell b1 (hc 1 (by decide))
  have e2 := Ext.cell b1 (hc 2 (by decide))
  have e3 := Ext.cell b1 (hc 3 (by decide))
  have e4 := Ext.cell b1 (hc 4 (by decide))
  have e5 := Ext.cell b1 (hc 5 (by decide))
  simp only [List.getElem?_cons_zero, List.getElem?_cons_succ, Nat.add_zero, Nat.zero_mul] at e0 e1 e2 e3 e4 e5
  clear hv hs hT hz1 hz2 hc hw1 r1
  go_enter Try.func119, Try.ntmps119
  go_upto_region 1 with (fail)
  rw [← HW.out]
  clear HW
  go_wp2_with fail
  clear e0 e1 e2 e3 e4 e5
  go_loopw [11] (fun i wr => ∃ (k : Nat) (x0 x1 x2 x3 x4 x5 : Value), i = .int .i64 k ∧ k ≤ l.length ∧ Ext w1 wr ∧ Hid (Bx wr w1.heap.size [x0, x1, x2, x3, x4, x5]) ∧ Hid (Rm wr w1.heap.size 6) ∧ Hid (RdE w (.agg #[x0, x1, x2, x3, x4, x5]) (mxs (l.take k) l[0]).1 (mxs (l.take k) l[0]).2)) (fun i _ => l.length - (intOf i).toNat)
  case atStart => exact ⟨0, _, _, _, _, _, _, rfl, Nat.zero_le _, Ext.alloc _ _, Bx.new w1 [_, _, _, _, _, _] _, Rm.new w1 [_, _, _, _, _, _] _, by rw [List.take_zero]; exact HZ.out⟩
  case round =>
    obtain ⟨k, x0, x1, x2, x3, x4, x5, rfl, hk, hx, hB, hM, hD⟩ := hrel
    have b2 := hx
    generalize wr = w2 at *
    have hsz := hx.size
    by_cases hlt : k < l.length
    · obtain ⟨b', off', cs, hb', hcl, hT, hc⟩ := HV.out.at (by decide) k hlt
      simp only [Option.some.injEq, Addr.mk.injEq, and_true] at hb'
      obtain ⟨rfl, rfl⟩ := hb'
      obtain ⟨y0, y1, y2, y3, y4, y5, rfl, hy1, hy2⟩ := cells_E hT
      obtain ⟨s0, a1, n1, c1, a2, n2, c2, rfl, rfl, rfl⟩ := RdP.op3 hy1
      obtain ⟨s3, a4, n4, c4, a5, n5, c5, rfl, rfl, rfl⟩ := RdP.op3 hy2
      obtain ⟨s1, s2⟩ := HS.out l[k] (List.getElem_mem hlt)
      obtain ⟨r1, r2⟩ := mxs_all (Sb 50000) (l.take k) l[0] (HS.out _ (List.getElem_mem h0)) (fun _ h => HS.out _ (List.mem_of_mem_take h))
      have HK := Lib.hid (mxs_take hlt l[0])
      generalize mxs (l.take k) l[0] = m at *
      generalize l[k] = y at *
      obtain ⟨p0, p1, p2, hA, hcA⟩ := top_cells (RdE.fst3 hD.out) hy1 r1 s1
      obtain ⟨q0, q1, q2, hB', hcB⟩ := top_cells (RdE.snd3 hD.out) hy2 r2 s2
      have HA := Lib.hid hA
      have HB := Lib.hid hB'
      have HCA := Lib.hid hcA
      have HCB := Lib.hid hcB
      obtain ⟨_, _, _, _, _, _, _, rfl, rfl, rfl⟩ := RdP.op3 hA
      obtain ⟨_, _, _, _, _, _, _, rfl, rfl, rfl⟩ := RdP.op3 hB'
      have b02 := Ext.trans b1 b2
      have e0 := Ext.cell b02 (hc 0 (by decide))
      have e1 := Ext.cell b02 (hc 1 (by decide))
      have e2 := Ext.cell b02 (hc 2 (by decide))
      have e3 := Ext.cell b02 (hc 3 (by decide))
      have e4 := Ext.cell b02 (hc 4 (by decide))
      have e5 := Ext.cell b02 (hc 5 (by decide))
      simp only [List.getElem?_cons_zero, List.getElem?_cons_succ, Nat.add_zero] at e0 e1 e2 e3 e4 e5
      obtain ⟨w3, hw3, b3, c3, -, -⟩ := bx1 w2 [.bool s0, .slice a1 n1 c1, .slice a2 n2 c2, .bool s3, .slice a4 n4 c4, .slice a5 n5 c5] 48
      have HW := Lib.hid hw3
      have C3 := Lib.hid c3
      have CM := Lib.hid (hB.out.ext b3)
      have RM := Lib.hid (hM.out.ext b3)
      clear hT hc hy1 hy2 s1 s2 r1 r2 hA hB' hcA hcB hw3 c3 hB hM
      go_upto_region 5 with (fail)
      rw [← HW.out]
      clear HW e0 e1 e2 e3 e4 e5 hcl
      generalize Value.bool s0 = y0 at *
      generalize Value.slice a1 n1 c1 = y1 at *
      generalize Value.slice a2 n2 c2 = y2 at *
      generalize Value.bool s3 = y3 at *
      generalize Value.slice a4 n4 c4 = y4 at *
      generalize Value.slice a5 n5 c5 = y5 at *
      have b4 := drew_ext w3
      have XE := b4
      refine wp_region_noPanic ?_
      refine wp_region_last_drew (st := 11) (S := fun w' => (w'.cell? ⟨w1.heap.size, 0, none⟩ = some (x0) ∧ w'.cell? ⟨w1.heap.size, 1, none⟩ = some (x1) ∧ w'.cell? ⟨w1.heap.size, 2, none⟩ = some (x2) ∧ w'.cell? ⟨w1.heap.size, 3, none⟩ = some (x3) ∧ w'.cell? ⟨w1.heap.size, 4, none⟩ = some (x4) ∧ w'.cell? ⟨w1.heap.size, 5, none⟩ = some (x5)) ∧ (w'.cell? ⟨w2.heap.size, 0, none⟩ = some (y0) ∧ w'.cell? ⟨w2.heap.size, 1, none⟩ = some (y1) ∧ w'.cell? ⟨w2.heap.size, 2, none⟩ = some (y2) ∧ w'.cell? ⟨w2.heap.size, 3, none⟩ = some (y3) ∧ w'.cell? ⟨w2.heap.size, 4, none⟩ = some (y4) ∧ w'.cell? ⟨w2.heap.size, 5, none⟩ = some (y5))) (by kernel_rfl) (⟨(CM.out.ext XE).c6, (C3.out.ext XE).c6⟩) (fun hHeld => ?_)
      refine wpAnyL_take (i := 0) (v := ?_) rfl (by kernel_rfl) (by kernel_rfl) (by kernel_rfl) (by kernel_rfl) (fun _ _ _ h => h) (Or.inl ⟨by rfl, fun w0 hSw => ?_⟩) hHeld ?_
      rotate_left
      · (try dsimp only at hSw)
        go_simp
        try with_reducible rfl
      simp only [Act.put, List.getElem_toArray, List.getElem_cons_succ, List.getElem_cons_zero, List.setIfInBounds_toArray, List.set_cons_zero, List.set_cons_succ]
      refine wpAnyL_take (i := 1) (v := ?_) rfl (by kernel_rfl) (by kernel_rfl) (by kernel_rfl) (by kernel_rfl) (fun _ _ _ h => h) (Or.inl ⟨by rfl, fun w0 hSw => ?_⟩) hHeld ?_
      rotate_left
      · (try dsimp only at hSw)
        go_simp
        try with_reducible rfl
      simp only [Act.put, List.getElem_toArray, List.getElem_cons_succ, List.getElem_cons_zero, List.setIfInBounds_toArray, List.set_cons_zero, List.set_cons_succ]
      refine wpAnyL_take (i := 2) (v := ?_) rfl (by kernel_rfl) (by kernel_rfl) (by kernel_rfl) (by kernel_rfl) (fun _ _ _ h => h) (Or.inl ⟨by rfl, fun w0 hSw => ?_⟩) hHeld ?_
      rotate_left
      · (try dsimp only at hSw)
        go_simp
        try with_reducible rfl
      simp only [Act.put, List.getElem_toArray, List.getElem_cons_succ, List.getElem_cons_zero, List.setIfInBounds_toArray, List.set_cons_zero, List.set_cons_succ]
      refine wpAnyL_take (i := 3) (v := ?_) rfl (by kernel_rfl) (by kernel_rfl) (by kernel_rfl) (by kernel_rfl) (fun _ _ _ h => h) (Or.inl ⟨by rfl, fun w0 hSw => ?_⟩) hHeld ?_
      rotate_left
      · (try dsimp only at hSw)
        go_simp
        try with_reducible rfl
      simp only [Act.put, List.getElem_toArray, List.getElem_cons_succ, List.getElem_cons_zero, List.setIfInBounds_toArray, List.set_cons_zero, List.set_cons_succ]
      refine wpAnyL_take (i := 5) (v := ?_) rfl (by kernel_rfl) (by kernel_rfl) (by kernel_rfl) (by kernel_rfl) (fun _ _ _ h => h) (Or.inl ⟨by rfl, fun w0 hSw => ?_⟩) hHeld ?_
      rotate_left
      · (try dsimp only at hSw)
        go_simp
        try with_reducible rfl
      simp only [Act.put, List.getElem_toArray, List.getElem_cons_succ, List.getElem_cons_zero, List.setIfInBounds_toArray, List.set_cons_zero, List.set_cons_succ]
      refine wpAnyL_take (i := 6) (v := ?_) rfl (by kernel_rfl) (by kernel_rfl) (by kernel_rfl) (by kernel_rfl) (fun _ _ _ h => h) (Or.inl ⟨by rfl, fun w0 hSw => ?_⟩) hHeld ?_
      rotate_left
      · (try dsimp only at hSw)
        go_simp
        try with_reducible rfl
      simp only [Act.put, List.getElem_toArray, List.getElem_cons_succ, List.getElem_cons_zero, List.setIfInBounds_toArray, List.set_cons_zero, List.set_cons_succ]
      refine wpAnyL_take (i := 7) (v := ?_) rfl (by kernel_rfl) (by kernel_rfl) (by kernel_rfl) (by kernel_rfl) (fun _ _ _ h => h) (Or.inl ⟨by rfl, fun w0 hSw => ?_⟩) hHeld ?_
      rotate_left
      · (try dsimp only at hSw)
        go_simp
        try with_reducible rfl
      simp only [Act.put, List.getElem_toArray, List.getElem_cons_succ, List.getElem_cons_zero, List.setIfInBounds_toArray, List.set_cons_zero, List.set_cons_succ]
      refine wpAnyL_take (i := 8) (v := ?_) rfl (by kernel_rfl) (by kernel_rfl) (by kernel_rfl) (by kernel_rfl) (fun _ _ _ h => h) (Or.inl ⟨by rfl, fun w0 hSw => ?_⟩) hHeld ?_
      rotate_left
      · (try dsimp only at hSw)
        go_simp
        try with_reducible rfl
      simp only [Act.put, List.getElem_toArray, List.getElem_cons_succ, List.getElem_cons_zero, List.setIfInBounds_toArray, List.set_cons_zero, List.set_cons_succ]
      refine wpAnyL_ready (rs := [4]) (by kernel_rfl) (by simp) ?_
      refine AllReadyL.cons (o := _) rfl (fun K hK => ?_) AllReadyL.nil
      go_simp
      go_at_call 145; refine (HCA.out _ (Ext.trans b02 (Ext.trans b3 XE))).mono ?_; rintro e w5 ⟨_, rfl, b5, rfl⟩; (first | have XE := Ext.trans XE b5 | have XE := Ext.trans (Ext.trans XE (Ext.alloc _ _)) b5)
      go_wp2_with fail
      refine hK.out _ _ (⟨(CM.out.ext XE).c6, (C3.out.ext XE).c6⟩) (fun hHeld => ?_)
      clear hK K
      try simp only [Act.put, List.getElem_toArray, List.getElem_cons_succ, List.getElem_cons_zero, List.setIfInBounds_toArray, List.set_cons_zero, List.set_cons_succ]
      refine wpAnyL_ready (rs := [9]) (by kernel_rfl) (by simp) ?_
      refine AllReadyL.cons (o := _) rfl (fun K hK => ?_) AllReadyL.nil
      go_simp
      go_at_call 145; refine (HCB.out _ (Ext.trans b02 (Ext.trans b3 XE))).mono ?_; rintro e w6 ⟨_, rfl, b6, rfl⟩; (first | have XE := Ext.trans XE b6 | have XE := Ext.trans (Ext.trans XE (Ext.alloc _ _)) b6)
      go_wp2_with fail
      refine hK.out _ _ (⟨(CM.out.ext XE).c6, (C3.out.ext XE).c6⟩) (fun hHeld => ?_)
      clear hK K
      try simp only [Act.put, List.getElem_toArray, List.getElem_cons_succ, List.getElem_cons_zero, List.setIfInBounds_toArray, List.set_cons_zero, List.set_cons_succ]
      refine wpAnyL_take (i := 10) (v := ?_) rfl (by kernel_rfl) (by kernel_rfl) (by kernel_rfl) (by kernel_rfl) (fun _ _ _ h => h) (Or.inl ⟨by rfl, fun w0 hSw => ?_⟩) hHeld ?_
      rotate_left
      · (try dsimp only at hSw)
        go_simp
        try with_reducible rfl
      simp only [Act.put, List.getElem_toArray, List.getElem_cons_succ, List.getElem_cons_zero, List.setIfInBounds_toArray, List.set_cons_zero, List.set_cons_succ]
      obtain ⟨_, _, _, _, _, _, j0, j1, j2, j3, j4, j5, g0, g1, g2, g3, g4, g5⟩ := (RM.out.ext XE).c6
      refine wpAnyL_ready (rs := [11]) (by kernel_rfl) (by simp) ?_
      refine AllReadyL.last (o := _) rfl (fun K hK => ?_)
      go_simp
      refine hK.out _ _ ?_
      clear hK K
      try simp only [Act.put, List.getElem_toArray, List.getElem_cons_succ, List.getElem_cons_zero, List.setIfInBounds_toArray, List.set_cons_zero, List.set_cons_succ]
      refine wpAnyL_done (by kernel_rfl) ?_ _
      refine NoPanic.normal ?_
      go_wp2_with fail
      go_roundw
      case rel =>
        have X := Ext.trans b3 XE
        exact ⟨k + 1, _, _, _, _, _, _, by go_num, by omega, put6_below (Ext.trans b2 X) (Nat.le_refl _) _ _ _ _ _ _, (Bx.putL_at (RM.out.ext XE) [_, _, _, _, _, _] rfl).1, (Bx.putL_at (RM.out.ext XE) [_, _, _, _, _, _] rfl).2, by rw [HK.out]; exact ⟨_, _, _, _, _, _, rfl, HA.out, HB.out⟩⟩
      case measure => simp [intOf] <;> omega
    · obtain rfl : k = l.length := by omega
      have HX : Hid (mxs (l.take l.length) l[0] = mxs l l[0]) := by show _ = _; rw [List.take_length]
      obtain ⟨k0, k1, k2, k3, k4, k5⟩ := hB.out.c6
      obtain ⟨s0, a1, n1, c1, a2, n2, c2, s3, a4, n4, c4, a5, n5, c5, hsh, -⟩ := RdE.op hD.out
      simp only [Value.agg.injEq, Array.mk.injEq, List.cons.injEq, and_true] at hsh
      obtain ⟨rfl, rfl, rfl, rfl, rfl, rfl⟩ := hsh
      obtain ⟨_, _, _, _, _, _, j0, j1, j2, j3, j4, j5, g0, g1, g2, g3, g4, g5⟩ := (R1.out.ext hx).c6
      go_wp2_with fail
      refine bodyPost_ret (v := .agg #[.bool s0, .slice a1 n1 c1, .slice a2 n2 c2, .bool s3, .slice a4 n4 c4, .slice a5 n5 c5]) (by simp [results, Try.results119, go_sem, j0, j1, j2, j3, j4, j5]) rfl ?_
      exact hR.out _ _ (Gives.mk (put6_below (Ext.trans b1 b2) (Nat.le_refl _) _ _ _ _ _ _) (by rw [← HX.out]; exact hD.out.ext (put6_below (Ext.trans b1 b2) (Nat.le_refl _) _ _ _ _ _ _)))
end Go.Proofs.Ytnbbhpihlcglgaa

/- span.Weigh -/
namespace Go.Proofs.Ytnbbhpihlcglgaa
open Go.RowKit Go.Att

theorem mn_cases (R : Rat → Prop) {p q : Rat} (hp : R p) (hq : R q) : R (mn p q) := by
  unfold mn
  split
  · exact hp
  · exact hq
/-- What a row makes of ranges, from s on. -/
def wfold (l : List (Rat × (Rat × Rat))) (s : Rat × Rat) : Rat × Rat := l.foldl (fun s z => (s.1 + mn (z.1 * z.2.1) (z.1 * z.2.2), s.2 + mx (z.1 * z.2.1) (z.1 * z.2.2))) s
theorem wfold_take {l : List (Rat × (Rat × Rat))} {k : Nat} (h : k < l.length) (s : Rat × Rat) :
    wfold (l.take (k + 1)) s = ((wfold (l.take k) s).1 + mn (l[k].1 * l[k].2.1) (l[k].1 * l[k].2.2), (wfold (l.take k) s).2 + mx (l[k].1 * l[k].2.1) (l[k].1 * l[k].2.2)) := by
  unfold wfold
  rw [← List.take_append_getElem h, List.foldl_append]
  rfl
theorem wfold_sz {C : Nat} : ∀ (l : List (Rat × (Rat × Rat))) (s : Rat × Rat) (L : Nat), (∀ z ∈ l, Sz 8 z.1 ∧ Sz C z.2.1 ∧ Sz C z.2.2) → Sz L s.1 ∧ Sz L s.2 → Sz (L + (C + 9) * l.length) (wfold l s).1 ∧ Sz (L + (C + 9) * l.length) (wfold l s).2
  | [], _, _, _, h => h
  | z :: l, s, L, hl, h => by
    obtain ⟨h1, h2, h3⟩ := hl z (List.mem_cons_self ..)
    have h4 := wfold_sz l (s.1 + mn (z.1 * z.2.1) (z.1 * z.2.2), s.2 + mx (z.1 * z.2.1) (z.1 * z.2.2)) (L + (C + 9)) (fun x hx => hl x (List.mem_cons_of_mem _ hx))
      ⟨(h.1.add (mn_cases (Sz (8 + C)) (h1.mul h2) (h1.mul h3))).le (by omega), (h.2.add (mx_cases (Sz (8 + C)) (h1.mul h2) (h1.mul h3))).le (by omega)⟩
    have e : L + (C + 9) + (C + 9) * l.length = L + (C + 9) * (z :: l).length := by rw [List.length_cons, Nat.mul_add]; omega
    rw [e] at h4
    exact h4
theorem OwnD.mk2 {e : TypeId} {B : Nat} {w : World} {x y z x' y' z' : Value} {a b : Rat} (h1 : OwnQ e B w (.agg #[x, y, z]) a) (h2 : OwnQ e B w (.agg #[x', y', z']) b) : OwnD e B w (.agg #[x, y, z, x', y', z']) a b := by
  obtain ⟨n, d, e1, on, od⟩ := h1
  obtain ⟨m, c, e2, om, oc⟩ := h2
  obtain ⟨rfl, rfl, rfl⟩ := agg3_inj e1
  obtain ⟨rfl, rfl, rfl⟩ := agg3_inj e2
  exact ⟨_, _, _, _, rfl, on, od, om, oc⟩
theorem OwnD.putS {e t : TypeId} {B c m : Nat} {w : World} {v : Value} {a b : Rat} (h : OwnD e B w v a b) (hc : Rt w c m t) (hne : e ≠ t) (i : Nat) (l : List Value) : OwnD e B (Att.putL w c i l) v a b := by
  obtain ⟨n, d, m, c, rfl, h1, h2, h3, h4⟩ := h
  exact ⟨_, _, _, _, rfl, h1.putT hc hne i l, h2.putT hc hne i l, h3.putT hc hne i l, h4.putT hc hne i l⟩

theorem sweigh_no {w : World} {v0 v1 v2 : Value} {l : List Rat} {m : List (Rat × Rat)} (hv : RdRow 3 RdQ w v0 l) (hx : RdRow 6 RdDp w v2 m) (hne : l.length ≠ m.length) {q : Rat} (hq : RdQ w v1 q) :
    Calls Try.prog 17 #[v0, v1, v2] w (Gives w fun v' _ => v' = .tuple #[.agg #[.bool false, .slice none 0 0, .slice none 0 0, .bool false, .slice none 0 0, .slice none 0 0], .int .i64 1]) := by
  refine via fun R hR => ?_
  obtain ⟨a, c, rfl, -, -⟩ := hv.shape
  obtain ⟨a', c', rfl, -, -⟩ := hx.shape
  obtain ⟨s0, a1, n1, c1, a2, n2, c2, rfl, -⟩ := hq.op
  have h1 : ((l.length : Int) != (m.length : Int)) = true := by simp only [bne_iff_ne]; omega
  clear hv hx
  go_enter Try.func17, Try.ntmps17
  go_wp2_with fail
  refine bodyPost_ret (v := .tuple #[.agg #[.bool false, .slice none 0 0, .slice none 0 0, .bool false, .slice none 0 0, .slice none 0 0], .int .i64 1]) (by simp [results, Try.results17, go_sem]) rfl ?_
  exact hR.out _ _ (Gives.mk (Ext.trans (Ext.alloc _ _) (Ext.alloc _ _)) rfl)

set_option maxHeartbeats 2000000 in
set_option linter.unusedSimpArgs false in
theorem sweigh_any {w : World} {v0 v1 v2 : Value} {l : List Rat} {m : List (Rat × Rat)} (hv : RdRow 3 RdQ w v0 l) (hx : RdRow 6 RdDp w v2 m) (heq : l.length = m.length) {q : Rat} (hq : OwnQ 163 0 w v1 q)
    (sl : ∀ p ∈ l, Sz 8 p) {C : Nat} (sm : ∀ p ∈ m, Sz C p.1 ∧ Sz C p.2) (sq : Sz 8 q) (hC : C ≤ 1000) (hCL : 8 + (C + 9) * l.length ≤ 1500) :
    Calls Try.prog 17 #[v0, v1, v2] w (Gives w fun v' w' => ∃ o, v' = .tuple #[o, .int .i64 0] ∧ OwnD 163 0 w' o (wfold (l.zip m) (q, q)).1 (wfold (l.zip m) (q, q)).2) := by
  refine via fun R hR => ?_
  have HV := Lib.hid hv
  have HX := Lib.hid hx
  have HC := Lib.hid hC
  have HCL := Lib.hid hCL
  have HZ : Hid (∀ z ∈ l.zip m, Sz 8 z.1 ∧ Sz C z.2.1 ∧ Sz C z.2.2) := fun z hz => ⟨sl z.1 (List.of_mem_zip hz).1, (sm z.2 (List.of_mem_zip hz).2)⟩
  have HLZ : Hid ((l.zip m).length = l.length) := by show _ = _; rw [List.length_zip]; omega
  have HSQ := Lib.hid sq
  have HEQ := Lib.hid heq
  obtain ⟨a, c, rfl, hlc, hcm⟩ := hv.shape
  obtain ⟨a', c', rfl, hlc', hcm'⟩ := hx.shape
  unfold maxLen at hcm hcm'
  obtain ⟨s0, a1, n1, c1, a2, n2, c2, rfl, HQ⟩ := hq.op
  have h1 : ((l.length : Int) != (m.length : Int)) = false := by rw [heq]; exact bne_self_eq_false _
  obtain ⟨w1, hw1, b1, k1, -, -, -, -⟩ := bx2 w [.bool s0, .slice a1 n1 c1, .slice a2 n2 c2] [.bool false, .slice none 0 0, .slice none 0 0, .bool false, .slice none 0 0, .slice none 0 0] 32 34
  have HW := Lib.hid hw1
  have R1 : Hid (Rt w1 (w.heap.size + 1) 6 34) := by
    rw [hw1]
    have := Rt.new (w.alloc (.cells #[.bool s0, .slice a1 n1 c1, .slice a2 n2 c2] 32)) [.bool false, .slice none 0 0, .slice none 0 0, .bool false, .slice none 0 0, .slice none 0 0] 34
    rw [show (w.alloc (.cells #[.bool s0, .slice a1 n1 c1, .slice a2 n2 c2] 32)).heap.size = w.heap.size + 1 by simp] at this
    exact this
  obtain ⟨j0, j1, j2⟩ := k1.c3
  clear hv hx sl sm sq hq hw1 k1 heq hC hCL
  go_enter Try.func17, Try.ntmps17
  go_upto_region 3 with (fail)
  rw [← HW.out]
  clear HW
  go_wp2_with fail
  clear j0 j1 j2
  go_loopw [22] (fun i wr => ∃ (k : Nat) (x0 x1 x2 x3 x4 x5 : Value), i = .int .i64 k ∧ k ≤ l.length ∧ Ext w1 wr ∧ Hid (Bx wr w1.heap.size [x0, x1, x2, x3, x4, x5]) ∧ Hid (Rt wr w1.heap.size 6 34) ∧ Hid (OwnD 163 0 wr (.agg #[x0, x1, x2, x3, x4, x5]) (wfold ((l.zip m).take k) (q, q)).1 (wfold ((l.zip m).take k) (q, q)).2)) (fun i _ => l.length - (intOf i).toNat)
  case atStart => exact ⟨0, _, _, _, _, _, _, rfl, Nat.zero_le _, Ext.alloc _ _, Bx.new w1 [_, _, _, _, _, _] _, Rt.new w1 [_, _, _, _, _, _] _, OwnD.mk2 (HQ.out.ext (Ext.trans b1 (Ext.alloc _ _))) (HQ.out.ext (Ext.trans b1 (Ext.alloc _ _)))⟩
  case round =>
    obtain ⟨k, x0, x1, x2, x3, x4, x5, rfl, hk, hx, hB, hM, hD⟩ := hrel
    have b2 := hx
    generalize wr = w2 at *
    have hsz := hx.size
    by_cases hlt : k < l.length
    · have hltm : k < m.length := by have := HEQ.out; omega
      obtain ⟨b, off, cs, rfl, hcl, hT, hc⟩ := HV.out.at (by decide) k hlt
      obtain ⟨b', off', cs', rfl, hcl', hT', hc'⟩ := HX.out.at (by decide) k hltm
      obtain ⟨aa, ac, ab, ad, rfl⟩ := cells_Q hT
      obtain ⟨y0, y1, y2, y3, y4, y5, rfl, hy1, hy2⟩ := cells_D hT'
      have hz : k < (l.zip m).length := by rw [HLZ.out]; exact hlt
      obtain ⟨s1, s2, s3⟩ := HZ.out _ (List.getElem_mem hz)
      obtain ⟨r1, r2⟩ := wfold_sz ((l.zip m).take k) (q, q) 8 (fun z h => HZ.out z (List.mem_of_mem_take h)) ⟨HSQ.out, HSQ.out⟩
      have hle : 8 + (C + 9) * ((l.zip m).take k).length ≤ 1500 := Nat.le_trans (Nat.add_le_add_left (Nat.mul_le_mul_left _ (by rw [List.length_take]; have := HLZ.out; omega)) _) HCL.out
      have HK := Lib.hid (wfold_take hz (q, q))
      have S1 := Lib.hid s1
      have S2 := Lib.hid s2
      have S3 := Lib.hid s3
      have R8 := Lib.hid (And.intro (r1.le hle) (r2.le hle))
      have hzk : (l.zip m)[k] = (l[k], m[k]) := List.getElem_zip
      rw [hzk] at HK S1 S2 S3
      generalize wfold ((l.zip m).take k) (q, q) = f at *
      have HP := Lib.hid hT
      have HY : Hid (RdD w (.agg #[y0, y1, y2, y3, y4, y5]) m[k].1 m[k].2) := ⟨_, _, _, _, _, _, rfl, hy1, hy2⟩
      generalize l[k] = p at *
      generalize m[k] = y at *
      have b02 := Ext.trans b1 b2
      have e0 := Ext.cell b02 (hc 0 (by decide))
      have e1 := Ext.cell b02 (hc 1 (by decide))
      have e2 := Ext.cell b02 (hc 2 (by decide))
      have KY : Hid (Bo w b' (off' + k * 6) [y0, y1, y2, y3, y4, y5]) := Bo.of hc'
      simp only [List.getElem?_cons_zero, List.getElem?_cons_succ, Nat.add_zero] at e0 e1 e2
      obtain ⟨w3, hw3, b3, c3, -, -⟩ := bx1 w2 [.bool (decide (p.num < 0)), .slice aa (limbs p.num.natAbs).length ac, .slice ab (dens p.den).length ad] 32
      have HW := Lib.hid hw3
      have C3 := Lib.hid c3
      have CM := Lib.hid (hB.out.ext b3)
      have CY := Lib.hid (Bo.ext KY.out (Ext.trans b02 b3))
      have RM := Lib.hid (hM.out.ext b3)
      clear hT hc hT' hc' hy1 hy2 s1 s2 s3 r1 r2 hw3 c3 hB hM hcl hcl' hzk KY
      go_upto_region 7 with (fail)
      rw [← HW.out]
      clear HW e0 e1 e2
      generalize Value.bool (decide (p.num < 0)) = z0 at *
      generalize Value.slice aa (limbs p.num.natAbs).length ac = z1 at *
      generalize Value.slice ab (dens p.den).length ad = z2 at *
      have b4 := drew_ext w3
      have XE := b4
      refine wp_region_noPanic ?_
      refine wp_region_last_drew (st := 8) (S := fun w' => (w'.cell? ⟨w1.heap.size, 0, none⟩ = some (x0) ∧ w'.cell? ⟨w1.heap.size, 1, none⟩ = some (x1) ∧ w'.cell? ⟨w1.heap.size, 2, none⟩ = some (x2) ∧ w'.cell? ⟨w1.heap.size, 3, none⟩ = some (x3) ∧ w'.cell? ⟨w1.heap.size, 4, none⟩ = some (x4) ∧ w'.cell? ⟨w1.heap.size, 5, none⟩ = some (x5)) ∧ (w'.cell? ⟨w2.heap.size, 0, none⟩ = some (z0) ∧ w'.cell? ⟨w2.heap.size, 1, none⟩ = some (z1) ∧ w'.cell? ⟨w2.heap.size, 2, none⟩ = some (z2)) ∧ (w'.cell? ⟨b', off' + k * 6, none⟩ = some (y0) ∧ w'.cell? ⟨b', off' + k * 6 + 1, none⟩ = some (y1) ∧ w'.cell? ⟨b', off' + k * 6 + 2, none⟩ = some (y2) ∧ w'.cell? ⟨b', off' + k * 6 + 3, none⟩ = some (y3) ∧ w'.cell? ⟨b', off' + k * 6 + 4, none⟩ = some (y4) ∧ w'.cell? ⟨b', off' + k * 6 + 5, none⟩ = some (y5))) (by kernel_rfl) (⟨(CM.out.ext XE).c6, (C3.out.ext XE).c3, (CY.out.ext XE).c6⟩) (fun hHeld => ?_)
      refine wpAnyL_take (i := 0) (v := ?_) rfl (by kernel_rfl) (by kernel_rfl) (by kernel_rfl) (by kernel_rfl) (fun _ _ _ h => h) (Or.inl ⟨by rfl, fun w0 hSw => ?_⟩) hHeld ?_
      rotate_left
      · (try dsimp only at hSw)
        go_simp
        try with_reducible rfl
      simp only [Act.put, List.getElem_toArray, List.getElem_cons_succ, List.getElem_cons_zero, List.setIfInBounds_toArray, List.set_cons_zero, List.set_cons_succ]
      refine wpAnyL_take (i := 1) (v := ?_) rfl (by kernel_rfl) (by kernel_rfl) (by kernel_rfl) (by kernel_rfl) (fun _ _ _ h => h) (Or.inl ⟨by rfl, fun w0 hSw => ?_⟩) hHeld ?_
      rotate_left
      · (try dsimp only at hSw)
        go_simp
        try with_reducible rfl
      simp only [Act.put, List.getElem_toArray, List.getElem_cons_succ, List.getElem_cons_zero, List.setIfInBounds_toArray, List.set_cons_zero, List.set_cons_succ]
      refine wpAnyL_take (i := 2) (v := ?_) rfl (by kernel_rfl) (by kernel_rfl) (by kernel_rfl) (by kernel_rfl) (fun _ _ _ h => h) (Or.inl ⟨by rfl, fun w0 hSw => ?_⟩) hHeld ?_
      rotate_left
      · (try dsimp only at hSw)
        go_simp
        try with_reducible rfl
      simp only [Act.put, List.getElem_toArray, List.getElem_cons_succ, List.getElem_cons_zero, List.setIfInBounds_toArray, List.set_cons_zero, List.set_cons_succ]
      refine wpAnyL_take (i := 3) (v := ?_) rfl (by kernel_rfl) (by kernel_rfl) (by kernel_rfl) (by kernel_rfl) (fun _ _ _ h => h) (Or.inl ⟨by rfl, fun w0 hSw => ?_⟩) hHeld ?_
      rotate_left
      · (try dsimp only at hSw)
        go_simp
        try with_reducible rfl
      simp only [Act.put, List.getElem_toArray, List.getElem_cons_succ, List.getElem_cons_zero, List.setIfInBounds_toArray, List.set_cons_zero, List.set_cons_succ]
      refine wpAnyL_take (i := 4) (v := ?_) rfl (by kernel_rfl) (by kernel_rfl) (by kernel_rfl) (by kernel_rfl) (fun _ _ _ h => h) (Or.inl ⟨by rfl, fun w0 hSw => ?_⟩) hHeld ?_
      rotate_left
      · (try dsimp only at hSw)
        go_simp
        try with_reducible rfl
      simp only [Act.put, List.getElem_toArray, List.getElem_cons_succ, List.getElem_cons_zero, List.setIfInBounds_toArray, List.set_cons_zero, List.set_cons_succ]
      refine wpAnyL_take (i := 5) (v := ?_) rfl (by kernel_rfl) (by kernel_rfl) (by kernel_rfl) (by kernel_rfl) (fun _ _ _ h => h) (Or.inl ⟨by rfl, fun w0 hSw => ?_⟩) hHeld ?_
      rotate_left
      · (try dsimp only at hSw)
        go_simp
        try with_reducible rfl
      simp only [Act.put, List.getElem_toArray, List.getElem_cons_succ, List.getElem_cons_zero, List.setIfInBounds_toArray, List.set_cons_zero, List.set_cons_succ]
      refine wpAnyL_ready (rs := [6]) (by kernel_rfl) (by simp) ?_
      refine AllReadyL.cons (o := _) rfl (fun K hK => ?_) AllReadyL.nil
      go_simp
      go_at_call 81; refine (sscale_any (HP.out.ext (Ext.trans b02 (Ext.trans b3 XE))) (HY.out.ext (Ext.trans b02 (Ext.trans b3 XE))) (S1.out.le (by decide)) (S2.out.le (by have := HC.out; omega)) (S3.out.le (by have := HC.out; omega))).mono ?_; rintro e w5 ⟨v5, rfl, b5, o5⟩; have O5 := Lib.hid o5; clear o5; (first | have XE := Ext.trans XE b5 | have XE := Ext.trans (Ext.trans XE (Ext.alloc _ _)) b5)
      go_wp2_with fail
      refine hK.out _ _ (⟨(CM.out.ext XE).c6, (C3.out.ext XE).c3, (CY.out.ext XE).c6⟩) (fun hHeld => ?_)
      clear hK K
      try simp only [Act.put, List.getElem_toArray, List.getElem_cons_succ, List.getElem_cons_zero, List.setIfInBounds_toArray, List.set_cons_zero, List.set_cons_succ]
      refine wpAnyL_ready (rs := [7]) (by kernel_rfl) (by simp) ?_
      refine AllReadyL.cons (o := _) rfl (fun K hK => ?_) AllReadyL.nil
      go_simp
      go_at_call 80; refine (sadd_any (hD.out.rd.ext (Ext.trans b3 XE)) (O5.out.rd) (R8.out.1.le (by decide)) (R8.out.2.le (by decide)) ((mn_cases (Sz (8 + C)) (S1.out.mul S2.out) (S1.out.mul S3.out)).le (by have := HC.out; omega)) ((mx_cases (Sz (8 + C)) (S1.out.mul S2.out) (S1.out.mul S3.out)).le (by have := HC.out; omega))).mono ?_; rintro e w6 ⟨v6, rfl, b6, o6⟩; have O6 := Lib.hid o6; clear o6; (first | have XE := Ext.trans XE b6 | have XE := Ext.trans (Ext.trans XE (Ext.alloc _ _)) b6); obtain ⟨_, _, _, _, _, _, _, _, _, _, _, _, _, _, rfl, P6⟩ := O6.out.op
      go_wp2_with fail
      refine hK.out _ _ (⟨(CM.out.ext XE).c6, (C3.out.ext XE).c3, (CY.out.ext XE).c6⟩) (fun hHeld => ?_)
      clear hK K
      try simp only [Act.put, List.getElem_toArray, List.getElem_cons_succ, List.getElem_cons_zero, List.setIfInBounds_toArray, List.set_cons_zero, List.set_cons_succ]
      obtain ⟨_, _, _, _, _, _, j0, j1, j2, j3, j4, j5, g0, g1, g2, g3, g4, g5⟩ := (RM.out.ext XE).rm.c6
      refine wpAnyL_ready (rs := [8]) (by kernel_rfl) (by simp) ?_
      refine AllReadyL.last (o := _) rfl (fun K hK => ?_)
      go_simp
      refine hK.out _ _ ?_
      clear hK K
      try simp only [Act.put, List.getElem_toArray, List.getElem_cons_succ, List.getElem_cons_zero, List.setIfInBounds_toArray, List.set_cons_zero, List.set_cons_succ]
      refine wpAnyL_done (by kernel_rfl) ?_ _
      refine NoPanic.normal ?_
      go_wp2_with fail
      go_roundw
      case rel =>
        have X := Ext.trans b3 XE
        exact ⟨k + 1, _, _, _, _, _, _, by go_num, by omega, put6_below (Ext.trans b2 X) (Nat.le_refl _) _ _ _ _ _ _, ((RM.out.ext XE).putL_at [_, _, _, _, _, _] rfl).1, ((RM.out.ext XE).putL_at [_, _, _, _, _, _] rfl).2, by rw [HK.out]; exact (OwnD.putS (P6.out.mono (Nat.zero_le _)) (RM.out.ext XE) (by decide) 0 [_, _, _, _, _, _])⟩
      case measure => simp [intOf] <;> omega
    · obtain rfl : k = l.length := by omega
      have HE : Hid (wfold ((l.zip m).take l.length) (q, q) = wfold (l.zip m) (q, q)) := by show _ = _; rw [List.take_of_length_le (by rw [HLZ.out]; exact Nat.le_refl _)]
      obtain ⟨k0, k1, k2, k3, k4, k5⟩ := hB.out.c6
      obtain ⟨s0, a1, n1, c1, a2, n2, c2, s3, a4, n4, c4, a5, n5, c5, hsh, -⟩ := RdD.op hD.out.rd
      simp only [Value.agg.injEq, Array.mk.injEq, List.cons.injEq, and_true] at hsh
      obtain ⟨rfl, rfl, rfl, rfl, rfl, rfl⟩ := hsh
      obtain ⟨_, _, _, _, _, _, j0, j1, j2, j3, j4, j5, g0, g1, g2, g3, g4, g5⟩ := (R1.out.ext hx).rm.c6
      go_wp2_with fail
      refine bodyPost_ret (v := .tuple #[.agg #[.bool s0, .slice a1 n1 c1, .slice a2 n2 c2, .bool s3, .slice a4 n4 c4, .slice a5 n5 c5], .int .i64 0]) (by simp [results, Try.results17, go_sem, j0, j1, j2, j3, j4, j5]) rfl ?_
      rw [← HE.out] at hR
      refine hR.out _ _ (Gives.mk (put6_below (Ext.trans b1 b2) (Nat.le_succ _) _ _ _ _ _ _) ⟨_, rfl, ?_⟩)
      exact OwnD.putS hD.out (R1.out.ext hx) (by decide) 0 [_, _, _, _, _, _]
end Go.Proofs.Ytnbbhpihlcglgaa

/- attestref17.Weigh -/
namespace Go.Proofs.Ytnbbhpihlcglgaa
open Go.RowKit Go.Att

/-- v reads as a range of the document's: in old memory, or in new. -/
def Se (w0 w : World) (v : Value) (a b : Rat) : Prop := RdE w0 v a b ∨ OwnE 4 0 w v a b
theorem Se.rd {w0 w : World} {v : Value} {a b : Rat} (h : Se w0 w v a b) (X : Ext w0 w) : RdE w v a b := h.elim (fun h => h.ext X) fun h => h.rd
theorem OwnE.putS {e t : TypeId} {B c m : Nat} {w : World} {v : Value} {a b : Rat} (h : OwnE e B w v a b) (hc : Rt w c m t) (hne : e ≠ t) (i : Nat) (l : List Value) : OwnE e B (Att.putL w c i l) v a b := by
  obtain ⟨n, d, m, c, rfl, h1, h2, h3, h4⟩ := h
  exact ⟨_, _, _, _, rfl, h1.putT hc hne i l, h2.putT hc hne i l, h3.putT hc hne i l, h4.putT hc hne i l⟩
theorem _root_.Go.Att.Bo.c3 {w : World} {b o : Nat} {x0 x1 x2 : Value} {l : List Value} (h : Bo w b o (x0 :: x1 :: x2 :: l)) : w.cell? ⟨b, o, none⟩ = some x0 ∧ w.cell? ⟨b, o + 1, none⟩ = some x1 ∧ w.cell? ⟨b, o + 2, none⟩ = some x2 :=
  ⟨h 0 _ rfl, h 1 _ rfl, h 2 _ rfl⟩
set_option maxHeartbeats 2000000 in
set_option linter.unusedSimpArgs false in
theorem r17weigh_any {w : World} {v0 v1 v2 : Value} {l : List Rat} {m : List (Rat × Rat)} (hv : RdRow 3 RdP w v0 l) (hx : RdRow 6 RdEp w v2 m) (heq : l.length = m.length) {q : Rat} (hq : RdP w v1 q)
    (sl : ∀ p ∈ l, Sz 8 p) {C : Nat} (sm : ∀ p ∈ m, Sz C p.1 ∧ Sz C p.2) (sq : Sz 8 q) (hC : C ≤ 1000) (hCL : 8 + (C + 9) * l.length ≤ 1500) :
    Calls Try.prog 23 #[v0, v1, v2] w (Gives w fun v' w' => RdE w' v' (wfold (l.zip m) (q, q)).1 (wfold (l.zip m) (q, q)).2) := by
  refine via fun R hR => ?_
  have HV := Lib.hid hv
  have HX := Lib.hid hx
  have HC := Lib.hid hC
  have HCL := Lib.hid hCL
  have HZ : Hid (∀ z ∈ l.zip m, Sz 8 z.1 ∧ Sz C z.2.1 ∧ Sz C z.2.2) := fun z hz => ⟨sl z.1 (List.of_mem_zip hz).1, (sm z.2 (List.of_mem_zip hz).2)⟩
  have HLZ : Hid ((l.zip m).length = l.length) := by show _ = _; rw [List.length_zip]; omega
  have HSQ := Lib.hid sq
  have HEQ := Lib.hid heq
  obtain ⟨a, c, rfl, hlc, hcm⟩ := hv.shape
  obtain ⟨a', c', rfl, hlc', hcm'⟩ := hx.shape
  unfold maxLen at hcm hcm'
  obtain ⟨s0, a1, n1, c1, a2, n2, c2, rfl, HQ⟩ := hq.op
  obtain ⟨w1, hw1, b1, k1, -, -, -, -⟩ := bx2 w [.bool s0, .slice a1 n1 c1, .slice a2 n2 c2] [.bool false, .slice none 0 0, .slice none 0 0, .bool false, .slice none 0 0, .slice none 0 0] 46 48
  have HW := Lib.hid hw1
  have R1 : Hid (Rt w1 (w.heap.size + 1) 6 48) := by
    rw [hw1]
    have := Rt.new (w.alloc (.cells #[.bool s0, .slice a1 n1 c1, .slice a2 n2 c2] 46)) [.bool false, .slice none 0 0, .slice none 0 0, .bool false, .slice none 0 0, .slice none 0 0] 48
    rw [show (w.alloc (.cells #[.bool s0, .slice a1 n1 c1, .slice a2 n2 c2] 46)).heap.size = w.heap.size + 1 by simp] at this
    exact this
  obtain ⟨j0, j1, j2⟩ := k1.c3
  clear hv hx sl sm sq hq hw1 k1 heq hC hCL
  go_enter Try.func23, Try.ntmps23
  go_upto_region 1 with (fail)
  rw [← HW.out]
  clear HW
  go_wp2_with fail
  clear j0 j1 j2
  go_loopw [15] (fun i wr => ∃ (k : Nat) (x0 x1 x2 x3 x4 x5 : Value), i = .int .i64 k ∧ k ≤ l.length ∧ Ext w1 wr ∧ Hid (Bx wr w1.heap.size [x0, x1, x2, x3, x4, x5]) ∧ Hid (Rt wr w1.heap.size 6 48) ∧ Hid (Se w wr (.agg #[x0, x1, x2, x3, x4, x5]) (wfold ((l.zip m).take k) (q, q)).1 (wfold ((l.zip m).take k) (q, q)).2)) (fun i _ => l.length - (intOf i).toNat)
  case atStart => exact ⟨0, _, _, _, _, _, _, rfl, Nat.zero_le _, Ext.alloc _ _, Bx.new w1 [_, _, _, _, _, _] _, Rt.new w1 [_, _, _, _, _, _] _, .inl ⟨_, _, _, _, _, _, rfl, HQ.out, HQ.out⟩⟩
  case round =>
    obtain ⟨k, x0, x1, x2, x3, x4, x5, rfl, hk, hx, hB, hM, hD⟩ := hrel
    have b2 := hx
    generalize wr = w2 at *
    have hsz := hx.size
    by_cases hlt : k < l.length
    · have hltm : k < m.length := by have := HEQ.out; omega
      obtain ⟨b, off, cs, rfl, hcl, hT, hc⟩ := HV.out.at (by decide) k hlt
      obtain ⟨b', off', cs', rfl, hcl', hT', hc'⟩ := HX.out.at (by decide) k hltm
      obtain ⟨aa, ac, ab, ad, rfl⟩ := cells_P hT
      obtain ⟨y0, y1, y2, y3, y4, y5, rfl, hy1, hy2⟩ := cells_E hT'
      have hz : k < (l.zip m).length := by rw [HLZ.out]; exact hlt
      obtain ⟨s1, s2, s3⟩ := HZ.out _ (List.getElem_mem hz)
      obtain ⟨r1, r2⟩ := wfold_sz ((l.zip m).take k) (q, q) 8 (fun z h => HZ.out z (List.mem_of_mem_take h)) ⟨HSQ.out, HSQ.out⟩
      have hle : 8 + (C + 9) * ((l.zip m).take k).length ≤ 1500 := Nat.le_trans (Nat.add_le_add_left (Nat.mul_le_mul_left _ (by rw [List.length_take]; have := HLZ.out; omega)) _) HCL.out
      have HK := Lib.hid (wfold_take hz (q, q))
      have S1 := Lib.hid s1
      have S2 := Lib.hid s2
      have S3 := Lib.hid s3
      have R8 := Lib.hid (And.intro (r1.le hle) (r2.le hle))
      have hzk : (l.zip m)[k] = (l[k], m[k]) := List.getElem_zip
      rw [hzk] at HK S1 S2 S3
      generalize wfold ((l.zip m).take k) (q, q) = f at *
      have HP := Lib.hid hT
      have HY : Hid (RdE w (.agg #[y0, y1, y2, y3, y4, y5]) m[k].1 m[k].2) := ⟨_, _, _, _, _, _, rfl, hy1, hy2⟩
      generalize l[k] = p at *
      generalize m[k] = y at *
      have b02 := Ext.trans b1 b2
      have KY : Hid (Bo w b' (off' + k * 6) [y0, y1, y2, y3, y4, y5]) := Bo.of hc'
      have KP0 : Hid (Bo w b (off + k * 3) [.bool (decide (p.num < 0)), .slice aa (bitsOf p.num.natAbs).length ac, .slice ab (bitsOf p.den).length ad]) := Bo.of hc
      generalize Value.bool (decide (p.num < 0)) = z0 at *
      generalize Value.slice aa (bitsOf p.num.natAbs).length ac = z1 at *
      generalize Value.slice ab (bitsOf p.den).length ad = z2 at *
      have CY := Lib.hid (Bo.ext KY.out b02)
      have CP := Lib.hid (Bo.ext KP0.out b02)
      have LY := Lib.hid CY.out.lt
      have LP := Lib.hid CP.out.lt
      clear hT hc hT' hc' hy1 hy2 s1 s2 s3 r1 r2 hcl hcl' hzk KY KP0
      go_upto_region 5 with (fail)
      go_cut [9] (fun s9 wx => ∃ (E : Nat) (h0 h1 h2 h3 h4 h5 : Value), s9 = .pointer (some ⟨E, 0, none⟩) ∧ Ext w2 wx ∧ (Bx wx E [h0, h1, h2, h3, h4, h5] ∧ Rt wx E 6 48) ∧ OwnE 4 0 wx (.agg #[h0, h1, h2, h3, h4, h5]) (mn (p * y.1) (p * y.2)) (mx (p * y.1) (p * y.2)))
      case first =>
        refine wp_region_noPanic ?_
        refine wp_region_held_drew (S := fun w' => (w'.cell? ⟨b, off + k * 3, none⟩ = some (z0) ∧ w'.cell? ⟨b, off + k * 3 + 1, none⟩ = some (z1) ∧ w'.cell? ⟨b, off + k * 3 + 2, none⟩ = some (z2)) ∧ (w'.cell? ⟨b', off' + k * 6, none⟩ = some (y0) ∧ w'.cell? ⟨b', off' + k * 6 + 1, none⟩ = some (y1) ∧ w'.cell? ⟨b', off' + k * 6 + 2, none⟩ = some (y2) ∧ w'.cell? ⟨b', off' + k * 6 + 3, none⟩ = some (y3) ∧ w'.cell? ⟨b', off' + k * 6 + 4, none⟩ = some (y4) ∧ w'.cell? ⟨b', off' + k * 6 + 5, none⟩ = some (y5))) (by kernel_rfl) (⟨(CP.out.ext (drew_ext w2)).c3, (CY.out.ext (drew_ext w2)).c6⟩) (fun hHeld => ?_)
        refine wpAnyH_take (i := 0) (v := ?_) rfl (by kernel_rfl) (by kernel_rfl) (by kernel_rfl) (fun _ _ _ h => h) (Or.inl ⟨by rfl, fun w0 hSw => ?_⟩) hHeld ?_
        rotate_left
        · (try dsimp only at hSw)
          go_simp
          try with_reducible rfl
        simp only [Act.put, List.getElem_toArray, List.getElem_cons_succ, List.getElem_cons_zero, List.setIfInBounds_toArray, List.set_cons_zero, List.set_cons_succ]
        refine wpAnyH_take (i := 1) (v := ?_) rfl (by kernel_rfl) (by kernel_rfl) (by kernel_rfl) (fun _ _ _ h => h) (Or.inl ⟨by rfl, fun w0 hSw => ?_⟩) hHeld ?_
        rotate_left
        · (try dsimp only at hSw)
          go_simp
          try with_reducible rfl
        simp only [Act.put, List.getElem_toArray, List.getElem_cons_succ, List.getElem_cons_zero, List.setIfInBounds_toArray, List.set_cons_zero, List.set_cons_succ]
        refine wpAnyH_take (i := 4) (v := ?_) rfl (by kernel_rfl) (by kernel_rfl) (by kernel_rfl) (fun _ _ _ h => h) (Or.inl ⟨by rfl, fun w0 hSw => ?_⟩) hHeld ?_
        rotate_left
        · (try dsimp only at hSw)
          go_simp
          try with_reducible rfl
        simp only [Act.put, List.getElem_toArray, List.getElem_cons_succ, List.getElem_cons_zero, List.setIfInBounds_toArray, List.set_cons_zero, List.set_cons_succ]
        refine wpAnyH_take (i := 5) (v := ?_) rfl (by kernel_rfl) (by kernel_rfl) (by kernel_rfl) (fun _ _ _ h => h) (Or.inl ⟨by rfl, fun w0 hSw => ?_⟩) hHeld ?_
        rotate_left
        · (try dsimp only at hSw)
          go_simp
          try with_reducible rfl
        simp only [Act.put, List.getElem_toArray, List.getElem_cons_succ, List.getElem_cons_zero, List.setIfInBounds_toArray, List.set_cons_zero, List.set_cons_succ]
        refine wpAnyH_take (i := 2) (v := ?_) rfl (by kernel_rfl) (by kernel_rfl) (by kernel_rfl) (fun _ _ _ h => h) (Or.inl ⟨by rfl, fun w0 hSw => ?_⟩) hHeld ?_
        rotate_left
        · (try dsimp only at hSw)
          go_simp
          try with_reducible rfl
        simp only [Act.put, List.getElem_toArray, List.getElem_cons_succ, List.getElem_cons_zero, List.setIfInBounds_toArray, List.set_cons_zero, List.set_cons_succ]
        refine wpAnyH_take (i := 6) (v := ?_) rfl (by kernel_rfl) (by kernel_rfl) (by kernel_rfl) (fun _ _ _ h => h) (Or.inl ⟨by rfl, fun w0 hSw => ?_⟩) hHeld ?_
        rotate_left
        · (try dsimp only at hSw)
          go_simp
          try with_reducible rfl
        simp only [Act.put, List.getElem_toArray, List.getElem_cons_succ, List.getElem_cons_zero, List.setIfInBounds_toArray, List.set_cons_zero, List.set_cons_succ]
        refine wpAnyH_take (i := 3) (v := ?_) rfl (by kernel_rfl) (by kernel_rfl) (by kernel_rfl) (fun _ _ _ h => h) (Or.inl ⟨by rfl, fun w0 hSw => ?_⟩) hHeld ?_
        rotate_left
        · (try dsimp only at hSw)
          go_simp
          try with_reducible rfl
        simp only [Act.put, List.getElem_toArray, List.getElem_cons_succ, List.getElem_cons_zero, List.setIfInBounds_toArray, List.set_cons_zero, List.set_cons_succ]
        refine wpAnyH_take (i := 7) (v := ?_) rfl (by kernel_rfl) (by kernel_rfl) (by kernel_rfl) (fun _ _ _ h => h) (Or.inl ⟨by rfl, fun w0 hSw => ?_⟩) hHeld ?_
        rotate_left
        · (try dsimp only at hSw)
          go_simp
          try with_reducible rfl
        simp only [Act.put, List.getElem_toArray, List.getElem_cons_succ, List.getElem_cons_zero, List.setIfInBounds_toArray, List.set_cons_zero, List.set_cons_succ]
        refine anyH_cap fun O Q9 AA hO hQ hA => ?_
        obtain ⟨SS, hSS⟩ : ∃ SS : World → Prop, Hid (SS = fun w' => (w'.cell? ⟨b, off + k * 3, none⟩ = some (z0) ∧ w'.cell? ⟨b, off + k * 3 + 1, none⟩ = some (z1) ∧ w'.cell? ⟨b, off + k * 3 + 2, none⟩ = some (z2)) ∧ (w'.cell? ⟨b', off' + k * 6, none⟩ = some (y0) ∧ w'.cell? ⟨b', off' + k * 6 + 1, none⟩ = some (y1) ∧ w'.cell? ⟨b', off' + k * 6 + 2, none⟩ = some (y2) ∧ w'.cell? ⟨b', off' + k * 6 + 3, none⟩ = some (y3) ∧ w'.cell? ⟨b', off' + k * 6 + 4, none⟩ = some (y4) ∧ w'.cell? ⟨b', off' + k * 6 + 5, none⟩ = some (y5))) := ⟨_, rfl⟩
        have KP : Hid (∀ wv, Ext w2 wv → SS wv) := fun wv XE => by rw [hSS.out]; exact ⟨(CP.out.ext XE).c3, (CY.out.ext XE).c6⟩
        have L1_9 : ∀ (wv : World) (v8 : Value) (B9 : Nat), Hid (Ext w2 wv) → Hid (OwnE 4 0 wv v8 (mn (p * y.1) (p * y.2)) (mx (p * y.1) (p * y.2))) → Hid (Rt wv B9 6 48) → Hid (w2.heap.size ≤ B9) → wpAnyH Try.prog .any O Q9 SS 1 #[true, true, true, true, true, true, true, true, true, true, false] ((AA.put (some 26) v8).put (some 9) (.pointer (some ⟨B9, 0, none⟩))) wv := by
          intro wv v8 B9 hX p8 r9 s9
          have hO1 := hO.out
          have hQ1 := hQ.out
          have hA1 := hA.out
          subst hO1
          subst hQ1
          subst hA1
          have XE := hX.out
          have hHeld := KP.out _ XE
          have hS1 := hSS.out
          subst hS1
          try simp only [Act.put, List.getElem_toArray, List.getElem_cons_succ, List.getElem_cons_zero, List.setIfInBounds_toArray, List.set_cons_zero, List.set_cons_succ]
          have k0_9 : b ≠ B9 := by have h1 := s9.out; have hz0 := LP.out; have hz1 := LY.out; omega
          have k1_9 : b' ≠ B9 := by have h1 := s9.out; have hz0 := LP.out; have hz1 := LY.out; omega
          obtain ⟨_, _, _, _, _, _, i9_0, i9_1, i9_2, i9_3, i9_4, i9_5, f9_0, f9_1, f9_2, f9_3, f9_4, f9_5⟩ := r9.out.rm.c6
          obtain ⟨_, _, _, _, _, _, _, _, _, _, _, _, _, _, rfl, OO⟩ := p8.out.op
          refine wpAnyH_ready (rs := [10]) (by kernel_rfl) (by simp) ?_
          refine AllReadyH.cons (o := _) rfl (fun K hK => ?_) AllReadyH.nil
          go_simp
          refine hK.out _ _ (⟨((CP.out.ext XE).putL k0_9 0 [_, _, _, _, _, _]).c3, ((CY.out.ext XE).putL k1_9 0 [_, _, _, _, _, _]).c6⟩) (fun hHeld => ?_)
          clear hK K
          try simp only [Act.put, List.getElem_toArray, List.getElem_cons_succ, List.getElem_cons_zero, List.setIfInBounds_toArray, List.set_cons_zero, List.set_cons_succ]
          refine wpAnyH_done (by kernel_rfl) ?_ _
          refine NoPanic.normal ?_
          go_wp2_with fail
          go_meet
          exact ⟨_, _, _, _, _, _, _, rfl, put6_below hX.out s9.out _ _ _ _ _ _, r9.out.putL_at [_, _, _, _, _, _] rfl, OwnE.putS OO.out r9.out (by decide) 0 [_, _, _, _, _, _]⟩
        have L0_9 : ∀ (wv : World) (B9 : Nat), Hid (Ext w2 wv) → Hid (Rt wv B9 6 48) → Hid (w2.heap.size ≤ B9) → wpAnyH Try.prog .any O Q9 SS 2 #[true, true, true, true, true, true, true, true, false, true, false] (AA.put (some 9) (.pointer (some ⟨B9, 0, none⟩))) wv := by
          intro wv B9 hX r9 s9
          have hO1 := hO.out
          have hQ1 := hQ.out
          have hA1 := hA.out
          subst hO1
          subst hQ1
          subst hA1
          have XE := hX.out
          try simp only [Act.put, List.getElem_toArray, List.getElem_cons_succ, List.getElem_cons_zero, List.setIfInBounds_toArray, List.set_cons_zero, List.set_cons_succ]
          refine wpAnyH_ready (rs := [8]) (by kernel_rfl) (by simp) ?_
          refine AllReadyH.cons (o := _) rfl (fun K hK => ?_) AllReadyH.nil
          go_simp
          go_at_call 84
          refine (r17scale_any (HP.out.ext (Ext.trans b02 XE)) (HY.out.ext (Ext.trans b02 XE)) (S1.out.bits.le (by decide)) (S2.out.bits.le (by have := HC.out; omega)) (S3.out.bits.le (by have := HC.out; omega)) ((S1.out.mul S2.out).bits.le (by have := HC.out; omega)) ((S1.out.mul S3.out).bits.le (by have := HC.out; omega))).mono ?_
          rintro e wn ⟨vn, rfl, bn, on⟩
          go_wp2_with fail
          refine hK.out _ _ (KP.out _ (Ext.trans XE bn)) (fun _ => ?_)
          clear hK K
          try simp only [Act.put, List.getElem_toArray, List.getElem_cons_succ, List.getElem_cons_zero, List.setIfInBounds_toArray, List.set_cons_zero, List.set_cons_succ]
          exact wpAnyH_at (L1_9 wn vn B9 (Ext.trans XE bn) (on.mono (Nat.zero_le _)) (r9.out.ext bn) s9) (by kernel_rfl) (by kernel_rfl) (by kernel_rfl)
        have L1_ : ∀ (wv : World) (v8 : Value), Hid (Ext w2 wv) → Hid (OwnE 4 0 wv v8 (mn (p * y.1) (p * y.2)) (mx (p * y.1) (p * y.2))) → wpAnyH Try.prog .any O Q9 SS 2 #[true, true, true, true, true, true, true, true, true, false, false] (AA.put (some 26) v8) wv := by
          intro wv v8 hX p8
          have hO1 := hO.out
          have hQ1 := hQ.out
          have hA1 := hA.out
          subst hO1
          subst hQ1
          subst hA1
          have XE := hX.out
          try simp only [Act.put, List.getElem_toArray, List.getElem_cons_succ, List.getElem_cons_zero, List.setIfInBounds_toArray, List.set_cons_zero, List.set_cons_succ]
          refine wpAnyH_ready (rs := [9]) (by kernel_rfl) (by simp) ?_
          refine AllReadyH.cons (o := _) rfl (fun K hK => ?_) AllReadyH.nil
          go_simp
          refine hK.out _ _ (KP.out _ (Ext.trans XE (Ext.alloc _ _))) (fun _ => ?_)
          clear hK K
          try simp only [Act.put, List.getElem_toArray, List.getElem_cons_succ, List.getElem_cons_zero, List.setIfInBounds_toArray, List.set_cons_zero, List.set_cons_succ]
          exact wpAnyH_at (L1_9 _ v8 wv.heap.size (Ext.trans XE (Ext.alloc wv (.cells [.bool false, .slice none 0 0, .slice none 0 0, .bool false, .slice none 0 0, .slice none 0 0].toArray 48))) (p8.out.ext (Ext.alloc wv (.cells [.bool false, .slice none 0 0, .slice none 0 0, .bool false, .slice none 0 0, .slice none 0 0].toArray 48))) (Rt.new wv [.bool false, .slice none 0 0, .slice none 0 0, .bool false, .slice none 0 0, .slice none 0 0] 48) (Below.size XE)) (by kernel_rfl) (by kernel_rfl) (by kernel_rfl)
        have L0_ : ∀ (wv : World), Hid (Ext w2 wv) → wpAnyH Try.prog .any O Q9 SS 3 #[true, true, true, true, true, true, true, true, false, false, false] AA wv := by
          intro wv hX
          have hO1 := hO.out
          have hQ1 := hQ.out
          have hA1 := hA.out
          subst hO1
          subst hQ1
          subst hA1
          have XE := hX.out
          try simp only [Act.put, List.getElem_toArray, List.getElem_cons_succ, List.getElem_cons_zero, List.setIfInBounds_toArray, List.set_cons_zero, List.set_cons_succ]
          refine wpAnyH_ready (rs := [8, 9]) (by kernel_rfl) (by simp) ?_
          refine AllReadyH.cons (o := _) rfl (fun K hK => ?_) (AllReadyH.cons (o := _) rfl (fun K hK => ?_) AllReadyH.nil)
          · skip
            go_simp
            go_at_call 84
            refine (r17scale_any (HP.out.ext (Ext.trans b02 XE)) (HY.out.ext (Ext.trans b02 XE)) (S1.out.bits.le (by decide)) (S2.out.bits.le (by have := HC.out; omega)) (S3.out.bits.le (by have := HC.out; omega)) ((S1.out.mul S2.out).bits.le (by have := HC.out; omega)) ((S1.out.mul S3.out).bits.le (by have := HC.out; omega))).mono ?_
            rintro e wn ⟨vn, rfl, bn, on⟩
            go_wp2_with fail
            refine hK.out _ _ (KP.out _ (Ext.trans XE bn)) (fun _ => ?_)
            clear hK K
            try simp only [Act.put, List.getElem_toArray, List.getElem_cons_succ, List.getElem_cons_zero, List.setIfInBounds_toArray, List.set_cons_zero, List.set_cons_succ]
            exact wpAnyH_at (L1_ wn vn (Ext.trans XE bn) (on.mono (Nat.zero_le _))) (by kernel_rfl) (by kernel_rfl) (by kernel_rfl)
          · skip
            go_simp
            refine hK.out _ _ (KP.out _ (Ext.trans XE (Ext.alloc _ _))) (fun _ => ?_)
            clear hK K
            try simp only [Act.put, List.getElem_toArray, List.getElem_cons_succ, List.getElem_cons_zero, List.setIfInBounds_toArray, List.set_cons_zero, List.set_cons_succ]
            exact wpAnyH_at (L0_9 _ wv.heap.size (Ext.trans XE (Ext.alloc wv (.cells [.bool false, .slice none 0 0, .slice none 0 0, .bool false, .slice none 0 0, .slice none 0 0].toArray 48))) (Rt.new wv [.bool false, .slice none 0 0, .slice none 0 0, .bool false, .slice none 0 0, .slice none 0 0] 48) (Below.size XE)) (by kernel_rfl) (by kernel_rfl) (by kernel_rfl)
        have hO1 := hO.out
        have hQ1 := hQ.out
        have hA1 := hA.out
        subst hO1
        subst hQ1
        subst hA1
        have hS1 := hSS.out
        subst hS1
        exact wpAnyH_at (L0_ w2.drew (drew_ext w2)) (by kernel_rfl) (by kernel_rfl) (by kernel_rfl)
      case rest =>
        obtain ⟨E, h0, h1, h2, h3, h4, h5, rfl, b3, hE, oE⟩ := hcut
        generalize wc = w3 at *
        have C3 := Lib.hid hE.1
        have OE := Lib.hid oE
        have CM := Lib.hid (hB.out.ext b3)
        have RM := Lib.hid (hM.out.ext b3)
        have FD := Lib.hid ((hD.out.rd b02).ext b3)
        have SN : Hid (Sz (8 + C) (mn (p * y.1) (p * y.2))) := mn_cases (Sz (8 + C)) (S1.out.mul S2.out) (S1.out.mul S3.out)
        have SX : Hid (Sz (8 + C) (mx (p * y.1) (p * y.2))) := mx_cases (Sz (8 + C)) (S1.out.mul S2.out) (S1.out.mul S3.out)
        clear hE oE hB hM CY CP LY LP
        go_upto_region 6 with (fail)
        generalize mn (p * y.1) (p * y.2) = n1 at *
        generalize mx (p * y.1) (p * y.2) = n2 at *
        have b4 := drew_ext w3
        have XE := b4
        refine wp_region_noPanic ?_
        refine wp_region_last_drew (st := 11) (S := fun w' => (w'.cell? ⟨w1.heap.size, 0, none⟩ = some (x0) ∧ w'.cell? ⟨w1.heap.size, 1, none⟩ = some (x1) ∧ w'.cell? ⟨w1.heap.size, 2, none⟩ = some (x2) ∧ w'.cell? ⟨w1.heap.size, 3, none⟩ = some (x3) ∧ w'.cell? ⟨w1.heap.size, 4, none⟩ = some (x4) ∧ w'.cell? ⟨w1.heap.size, 5, none⟩ = some (x5)) ∧ (w'.cell? ⟨E, 0, none⟩ = some (h0) ∧ w'.cell? ⟨E, 1, none⟩ = some (h1) ∧ w'.cell? ⟨E, 2, none⟩ = some (h2) ∧ w'.cell? ⟨E, 3, none⟩ = some (h3) ∧ w'.cell? ⟨E, 4, none⟩ = some (h4) ∧ w'.cell? ⟨E, 5, none⟩ = some (h5))) (by kernel_rfl) (⟨(CM.out.ext XE).c6, (C3.out.ext XE).c6⟩) (fun hHeld => ?_)
        refine wpAnyL_take (i := 0) (v := ?_) rfl (by kernel_rfl) (by kernel_rfl) (by kernel_rfl) (by kernel_rfl) (fun _ _ _ h => h) (Or.inl ⟨by rfl, fun w0 hSw => ?_⟩) hHeld ?_
        rotate_left
        · (try dsimp only at hSw)
          go_simp
          try with_reducible rfl
        simp only [Act.put, List.getElem_toArray, List.getElem_cons_succ, List.getElem_cons_zero, List.setIfInBounds_toArray, List.set_cons_zero, List.set_cons_succ]
        refine wpAnyL_take (i := 1) (v := ?_) rfl (by kernel_rfl) (by kernel_rfl) (by kernel_rfl) (by kernel_rfl) (fun _ _ _ h => h) (Or.inl ⟨by rfl, fun w0 hSw => ?_⟩) hHeld ?_
        rotate_left
        · (try dsimp only at hSw)
          go_simp
          try with_reducible rfl
        simp only [Act.put, List.getElem_toArray, List.getElem_cons_succ, List.getElem_cons_zero, List.setIfInBounds_toArray, List.set_cons_zero, List.set_cons_succ]
        refine wpAnyL_take (i := 2) (v := ?_) rfl (by kernel_rfl) (by kernel_rfl) (by kernel_rfl) (by kernel_rfl) (fun _ _ _ h => h) (Or.inl ⟨by rfl, fun w0 hSw => ?_⟩) hHeld ?_
        rotate_left
        · (try dsimp only at hSw)
          go_simp
          try with_reducible rfl
        simp only [Act.put, List.getElem_toArray, List.getElem_cons_succ, List.getElem_cons_zero, List.setIfInBounds_toArray, List.set_cons_zero, List.set_cons_succ]
        refine wpAnyL_take (i := 3) (v := ?_) rfl (by kernel_rfl) (by kernel_rfl) (by kernel_rfl) (by kernel_rfl) (fun _ _ _ h => h) (Or.inl ⟨by rfl, fun w0 hSw => ?_⟩) hHeld ?_
        rotate_left
        · (try dsimp only at hSw)
          go_simp
          try with_reducible rfl
        simp only [Act.put, List.getElem_toArray, List.getElem_cons_succ, List.getElem_cons_zero, List.setIfInBounds_toArray, List.set_cons_zero, List.set_cons_succ]
        refine wpAnyL_take (i := 5) (v := ?_) rfl (by kernel_rfl) (by kernel_rfl) (by kernel_rfl) (by kernel_rfl) (fun _ _ _ h => h) (Or.inl ⟨by rfl, fun w0 hSw => ?_⟩) hHeld ?_
        rotate_left
        · (try dsimp only at hSw)
          go_simp
          try with_reducible rfl
        simp only [Act.put, List.getElem_toArray, List.getElem_cons_succ, List.getElem_cons_zero, List.setIfInBounds_toArray, List.set_cons_zero, List.set_cons_succ]
        refine wpAnyL_take (i := 6) (v := ?_) rfl (by kernel_rfl) (by kernel_rfl) (by kernel_rfl) (by kernel_rfl) (fun _ _ _ h => h) (Or.inl ⟨by rfl, fun w0 hSw => ?_⟩) hHeld ?_
        rotate_left
        · (try dsimp only at hSw)
          go_simp
          try with_reducible rfl
        simp only [Act.put, List.getElem_toArray, List.getElem_cons_succ, List.getElem_cons_zero, List.setIfInBounds_toArray, List.set_cons_zero, List.set_cons_succ]
        refine wpAnyL_take (i := 7) (v := ?_) rfl (by kernel_rfl) (by kernel_rfl) (by kernel_rfl) (by kernel_rfl) (fun _ _ _ h => h) (Or.inl ⟨by rfl, fun w0 hSw => ?_⟩) hHeld ?_
        rotate_left
        · (try dsimp only at hSw)
          go_simp
          try with_reducible rfl
        simp only [Act.put, List.getElem_toArray, List.getElem_cons_succ, List.getElem_cons_zero, List.setIfInBounds_toArray, List.set_cons_zero, List.set_cons_succ]
        refine wpAnyL_take (i := 8) (v := ?_) rfl (by kernel_rfl) (by kernel_rfl) (by kernel_rfl) (by kernel_rfl) (fun _ _ _ h => h) (Or.inl ⟨by rfl, fun w0 hSw => ?_⟩) hHeld ?_
        rotate_left
        · (try dsimp only at hSw)
          go_simp
          try with_reducible rfl
        simp only [Act.put, List.getElem_toArray, List.getElem_cons_succ, List.getElem_cons_zero, List.setIfInBounds_toArray, List.set_cons_zero, List.set_cons_succ]
        refine wpAnyL_ready (rs := [4]) (by kernel_rfl) (by simp) ?_
        refine AllReadyL.cons (o := _) rfl (fun K hK => ?_) AllReadyL.nil
        go_simp
        go_at_call 85; refine (r5add_any ((RdE.fst3 FD.out).ext XE) ((RdE.fst3 OE.out.rd).ext XE) (R8.out.1.bits.le (by decide)) (SN.out.bits.le (by have := HC.out; omega))).mono ?_; rintro e w5 ⟨_, rfl, b5, n5, d5, rfl, on5, od5⟩; have ON5 := Lib.hid on5; have OD5 := Lib.hid od5; clear on5 od5; obtain ⟨an5, cn5, rfl, -, -, -, -⟩ := ON5.out.rd.shape; obtain ⟨ad5, cd5, rfl, -, -, -, -⟩ := OD5.out.rd.shape; (first | have XE := Ext.trans XE b5 | have XE := Ext.trans (Ext.trans XE (Ext.alloc _ _)) b5)
        go_wp2_with fail
        refine hK.out _ _ (⟨(CM.out.ext XE).c6, (C3.out.ext XE).c6⟩) (fun hHeld => ?_)
        clear hK K
        try simp only [Act.put, List.getElem_toArray, List.getElem_cons_succ, List.getElem_cons_zero, List.setIfInBounds_toArray, List.set_cons_zero, List.set_cons_succ]
        refine wpAnyL_ready (rs := [9]) (by kernel_rfl) (by simp) ?_
        refine AllReadyL.cons (o := _) rfl (fun K hK => ?_) AllReadyL.nil
        go_simp
        go_at_call 85; refine (r5add_any ((RdE.snd3 FD.out).ext XE) ((RdE.snd3 OE.out.rd).ext XE) (R8.out.2.bits.le (by decide)) (SX.out.bits.le (by have := HC.out; omega))).mono ?_; rintro e w6 ⟨_, rfl, b6, n6, d6, rfl, on6, od6⟩; have ON6 := Lib.hid on6; have OD6 := Lib.hid od6; clear on6 od6; obtain ⟨an6, cn6, rfl, -, -, -, -⟩ := ON6.out.rd.shape; obtain ⟨ad6, cd6, rfl, -, -, -, -⟩ := OD6.out.rd.shape; (first | have XE := Ext.trans XE b6 | have XE := Ext.trans (Ext.trans XE (Ext.alloc _ _)) b6)
        go_wp2_with fail
        refine hK.out _ _ (⟨(CM.out.ext XE).c6, (C3.out.ext XE).c6⟩) (fun hHeld => ?_)
        clear hK K
        try simp only [Act.put, List.getElem_toArray, List.getElem_cons_succ, List.getElem_cons_zero, List.setIfInBounds_toArray, List.set_cons_zero, List.set_cons_succ]
        refine wpAnyL_take (i := 10) (v := ?_) rfl (by kernel_rfl) (by kernel_rfl) (by kernel_rfl) (by kernel_rfl) (fun _ _ _ h => h) (Or.inl ⟨by rfl, fun w0 hSw => ?_⟩) hHeld ?_
        rotate_left
        · (try dsimp only at hSw)
          go_simp
          try with_reducible rfl
        simp only [Act.put, List.getElem_toArray, List.getElem_cons_succ, List.getElem_cons_zero, List.setIfInBounds_toArray, List.set_cons_zero, List.set_cons_succ]
        obtain ⟨_, _, _, _, _, _, j0, j1, j2, j3, j4, j5, g0, g1, g2, g3, g4, g5⟩ := (RM.out.ext XE).rm.c6
        refine wpAnyL_ready (rs := [11]) (by kernel_rfl) (by simp) ?_
        refine AllReadyL.last (o := _) rfl (fun K hK => ?_)
        go_simp
        refine hK.out _ _ ?_
        clear hK K
        try simp only [Act.put, List.getElem_toArray, List.getElem_cons_succ, List.getElem_cons_zero, List.setIfInBounds_toArray, List.set_cons_zero, List.set_cons_succ]
        refine wpAnyL_done (by kernel_rfl) ?_ _
        refine NoPanic.normal ?_
        go_wp2_with fail
        go_roundw
        case rel =>
          have X := Ext.trans b3 XE
          exact ⟨k + 1, _, _, _, _, _, _, by go_num, by omega, put6_below (Ext.trans b2 X) (Nat.le_refl _) _ _ _ _ _ _, ((RM.out.ext XE).putL_at [_, _, _, _, _, _] rfl).1, ((RM.out.ext XE).putL_at [_, _, _, _, _, _] rfl).2, by rw [HK.out]; exact .inr (OwnE.putS ⟨_, _, _, _, rfl, (ON5.out.ext b6).mono (Nat.zero_le _), (OD5.out.ext b6).mono (Nat.zero_le _), ON6.out.mono (Nat.zero_le _), OD6.out.mono (Nat.zero_le _)⟩ (RM.out.ext XE) (by decide) 0 [_, _, _, _, _, _])⟩
        case measure => simp [intOf] <;> omega
    · obtain rfl : k = l.length := by omega
      have HE : Hid (wfold ((l.zip m).take l.length) (q, q) = wfold (l.zip m) (q, q)) := by show _ = _; rw [List.take_of_length_le (by rw [HLZ.out]; exact Nat.le_refl _)]
      obtain ⟨k0, k1, k2, k3, k4, k5⟩ := hB.out.c6
      obtain ⟨s0, a1, n1, c1, a2, n2, c2, s3, a4, n4, c4, a5, n5, c5, hsh, -⟩ := RdE.op (hD.out.rd (Ext.trans b1 b2))
      simp only [Value.agg.injEq, Array.mk.injEq, List.cons.injEq, and_true] at hsh
      obtain ⟨rfl, rfl, rfl, rfl, rfl, rfl⟩ := hsh
      obtain ⟨_, _, _, _, _, _, j0, j1, j2, j3, j4, j5, g0, g1, g2, g3, g4, g5⟩ := (R1.out.ext hx).rm.c6
      go_wp2_with fail
      refine bodyPost_ret (v := .agg #[.bool s0, .slice a1 n1 c1, .slice a2 n2 c2, .bool s3, .slice a4 n4 c4, .slice a5 n5 c5]) (by simp [results, Try.results23, go_sem, j0, j1, j2, j3, j4, j5]) rfl ?_
      rw [← HE.out] at hR
      refine hR.out _ _ (Gives.mk (put6_below (Ext.trans b1 b2) (Nat.le_succ _) _ _ _ _ _ _) ?_)
      rcases hD.out with h | h
      · exact h.ext (put6_below (Ext.trans b1 b2) (Nat.le_succ _) _ _ _ _ _ _)
      · exact (OwnE.putS h (R1.out.ext hx) (by decide) 0 [_, _, _, _, _, _]).rd
end Go.Proofs.Ytnbbhpihlcglgaa

/- What SpanWeighs needs: rows and blocks of numbers, and the plain law. -/
namespace Go.Proofs.Ytnbbhpihlcglgaa
open Go.RowKit Go.Att

/-- Rows that came out of rats and of List. -/
def RQ (w : World) (v : Value) (l : List Rat) : Prop := RdRow 3 (OwnQp 163) w v l
theorem RQ.ext {w w' : World} {v : Value} {l : List Rat} (h : RQ w v l) (x : Ext w w') : RQ w' v l := RdRow.ext h OwnQ.ext x
theorem RQ.rd {w : World} {v : Value} {l : List Rat} (h : RQ w v l) : RdRow 3 RdQ w v l := RdRow.mono h fun _ _ h => OwnQ.rd h
def RD6 (w : World) (v : Value) (l : List (Rat × Rat)) : Prop := RdRow 6 (OwnDp 163) w v l
theorem RD6.ext {w w' : World} {v : Value} {l : List (Rat × Rat)} (h : RD6 w v l) (x : Ext w w') : RD6 w' v l := RdRow.ext h OwnD.ext x
theorem RD6.rd {w : World} {v : Value} {l : List (Rat × Rat)} (h : RD6 w v l) : RdRow 6 RdDp w v l := RdRow.mono h fun _ _ h => OwnD.rd h
/-- v is a range and a number. -/
def Wr (w : World) (v : Value) (e : Int) (a b : Rat) : Prop := ∃ o, v = .tuple #[o, .int .i64 e] ∧ OwnD 163 0 w o a b
theorem Wr.ext {w w' : World} {v : Value} {e : Int} {a b : Rat} (h : Wr w v e a b) (x : Ext w w') : Wr w' v e a b := by
  obtain ⟨o, rfl, h⟩ := h
  exact ⟨o, rfl, h.ext x⟩
theorem ownL_nil (e : TypeId) (w : World) : OwnL e 0 w (.slice none 0 0) [] := ⟨⟨by simp [ints], .inl ⟨rfl, rfl⟩⟩, Fit.nil _⟩
theorem ownD_zero {e : TypeId} {w : World} : OwnD e 0 w (.agg #[.bool false, .slice none 0 0, .slice none 0 0, .bool false, .slice none 0 0, .slice none 0 0]) 0 0 := by
  have h : OwnL e 0 w (.slice none 0 0) (limbs 0) := by rw [limbs_zero]; exact ownL_nil e w
  exact ⟨_, _, _, _, rfl, h, ownL_nil e w, h, ownL_nil e w⟩
/-- Block b holds the number q. -/
def Bq (w : World) (b : Nat) (q : Rat) : Prop := ∃ x y z, Bx w b [x, y, z] ∧ Rt w b 3 32 ∧ OwnQ 163 0 w (.agg #[x, y, z]) q
theorem Bq.ext {w w' : World} {b : Nat} {q : Rat} (h : Bq w b q) (x : Ext w w') : Bq w' b q := by
  obtain ⟨_, _, _, h1, h2, h3⟩ := h
  exact ⟨_, _, _, h1.ext x, h2.ext x, h3.ext x⟩
theorem Bq.put {w : World} {b c : Nat} {q : Rat} (h : Bq w b q) (hc : Rt w c 3 32) (hne : b ≠ c) (x y z : Value) : Bq (put3 w c x y z) b q := by
  obtain ⟨_, _, _, h1, h2, h3⟩ := h
  exact ⟨_, _, _, h1.put3 hne x y z, h2.putL hne 0 [x, y, z], h3.putT hc (by decide) 0 [x, y, z]⟩
theorem Bq.set {w : World} {c : Nat} {q : Rat} (hc : Rt w c 3 32) {x y z : Value} (h : OwnQ 163 0 w (.agg #[x, y, z]) q) : Bq (put3 w c x y z) c q :=
  ⟨_, _, _, (hc.putL_at [x, y, z] rfl).1, (hc.putL_at [x, y, z] rfl).2, h.putT hc (by decide) 0 [x, y, z]⟩
theorem Bq.new {w : World} {x y z : Value} {q : Rat} (h : OwnQ 163 0 w (.agg #[x, y, z]) q) : Bq (w.alloc (.cells #[x, y, z] 32)) w.heap.size q :=
  ⟨_, _, _, Bx.new w [x, y, z] _, Rt.new w [x, y, z] _, h.ext (Ext.alloc _ _)⟩
theorem Bq.rt {w : World} {b : Nat} {q : Rat} (h : Bq w b q) : Rt w b 3 32 := by
  obtain ⟨_, _, _, -, h, -⟩ := h
  exact h
theorem Bq.lt {w : World} {b : Nat} {q : Rat} (h : Bq w b q) : b < w.heap.size := h.rt.lt
theorem Bq.op {w : World} {b : Nat} {q : Rat} (h : Bq w b q) : ∃ s a l c a' l' c', Hid (Bx w b [.bool s, .slice a l c, .slice a' l' c']) ∧ Hid (Rt w b 3 32) ∧ Hid (OwnQ 163 0 w (.agg #[.bool s, .slice a l c, .slice a' l' c']) q) := by
  obtain ⟨x, y, z, h1, h2, h3⟩ := h
  obtain ⟨_, _, _, _, _, _, _, rfl, rfl, rfl⟩ := RdQ.op3 h3.rd
  exact ⟨_, _, _, _, _, _, _, h1, h2, h3⟩

/-- Blocks that hold numbers. -/
def Bs (w : World) (l : List (Nat × Rat)) : Prop := ∀ z ∈ l, Bq w z.1 z.2
theorem Bs.ext {w w' : World} {l : List (Nat × Rat)} (h : Bs w l) (x : Ext w w') : Bs w' l := fun z hz => (h z hz).ext x
theorem Bs.at {w : World} {l : List (Nat × Rat)} (h : Bs w l) (b : Nat) (q : Rat) (hm : (b, q) ∈ l) : Bq w b q := h _ hm
theorem Bs.put {w : World} {l : List (Nat × Rat)} (h : Bs w l) {c : Nat} (hc : Rt w c 3 32) {x y z : Value} {q : Rat} (hq : OwnQ 163 0 w (.agg #[x, y, z]) q) (l' : List (Nat × Rat))
    (hl : ∀ u ∈ l', u = (c, q) ∨ u ∈ l ∧ u.1 ≠ c) : Bs (put3 w c x y z) l' := fun u hu => by
  rcases hl u hu with rfl | ⟨h1, h2⟩
  · exact Bq.set hc hq
  · exact (h u h1).put hc h2 x y z
theorem Bs.cons {w : World} {l : List (Nat × Rat)} {b : Nat} {q : Rat} (h : Bq w b q) (h2 : Bs w l) : Bs w ((b, q) :: l) := fun z hz => by
  rcases List.mem_cons.1 hz with rfl | hz
  · exact h
  · exact h2 z hz

/-! ### The plain law -/
theorem sign_le {a b : Rat} : (a - b).num.sign ≤ 0 ↔ a ≤ b := by
  have h1 : 0 ≤ (b - a).num ↔ 0 ≤ b - a := Rat.num_nonneg
  rw [Rat.le_iff_sub_nonneg a b, ← h1, show (b - a).num = -(a - b).num by rw [← Rat.neg_num, Rat.neg_sub], Int.sign_nonpos_iff]
  omega
theorem mn_le {x y : Rat} (h : x ≤ y) : mn x y = x := if_pos (sign_le.2 h)
theorem mn_ge {x y : Rat} (h : y ≤ x) : mn x y = y := by
  unfold mn
  split
  · next h1 => exact Rat.le_antisymm (sign_le.1 h1) h
  · rfl
theorem nsign {x y : Rat} : 0 ≤ (x - y).num.sign ↔ y ≤ x := by
  rw [← sign_le (a := y) (b := x), show (y - x).num.sign = -(x - y).num.sign by rw [← Int.sign_neg, ← Rat.neg_num, Rat.neg_sub]]
  omega
theorem mx_ge {x y : Rat} (h : y ≤ x) : mx x y = x := if_pos (nsign.2 h)
theorem mx_le {x y : Rat} (h : x ≤ y) : mx x y = y := by
  unfold mx
  split
  · next h1 => exact Rat.le_antisymm h (nsign.1 h1)
  · rfl
theorem sgn_neg {p : Rat} : p.num.sign < 0 ↔ p < 0 := by
  rw [Int.sign_neg_iff, ← Rat.not_le, ← Rat.num_nonneg]
  omega
theorem mul_nonpos {p a b : Rat} (hp : p ≤ 0) (h : a ≤ b) : p * b ≤ p * a := by
  have h1 := Rat.mul_le_mul_of_nonneg_left h (show (0 : Rat) ≤ -p by have := Rat.neg_le_neg hp; rwa [show (-0 : Rat) = 0 from rfl] at this)
  rw [Rat.neg_mul, Rat.neg_mul] at h1
  exact Rat.neg_le_neg_iff.1 h1
/-- The ends, by the sign of the weight. -/
theorem ends_sgn {p a b : Rat} (h : a ≤ b) : mn (p * a) (p * b) = p * (if p.num.sign < 0 then b else a) ∧ mx (p * a) (p * b) = p * (if p.num.sign < 0 then a else b) := by
  by_cases hp : p.num.sign < 0
  · rw [if_pos hp, if_pos hp]
    have := mul_nonpos (Rat.le_of_lt (sgn_neg.1 hp)) h
    exact ⟨mn_ge this, mx_ge this⟩
  · rw [if_neg hp, if_neg hp]
    have := Rat.mul_le_mul_of_nonneg_left h (Rat.not_lt.1 fun h => hp (sgn_neg.2 h))
    exact ⟨mn_le this, mx_le this⟩
theorem ends_hold {p a b v : Rat} (h1 : a ≤ v) (h2 : v ≤ b) : mn (p * a) (p * b) ≤ p * v ∧ p * v ≤ mx (p * a) (p * b) := by
  have h := Rat.le_trans h1 h2
  by_cases hp : p.num.sign < 0
  · have h3 := Rat.le_of_lt (sgn_neg.1 hp)
    rw [mn_ge (mul_nonpos h3 h), mx_ge (mul_nonpos h3 h)]
    exact ⟨mul_nonpos h3 h2, mul_nonpos h3 h1⟩
  · have h3 : 0 ≤ p := Rat.not_lt.1 fun h => hp (sgn_neg.2 h)
    rw [mn_le (Rat.mul_le_mul_of_nonneg_left h h3), mx_le (Rat.mul_le_mul_of_nonneg_left h h3)]
    exact ⟨Rat.mul_le_mul_of_nonneg_left h1 h3, Rat.mul_le_mul_of_nonneg_left h2 h3⟩
theorem add_le_both {a b c d : Rat} (h1 : a ≤ b) (h2 : c ≤ d) : a + c ≤ b + d := Rat.le_trans (Rat.add_le_add_right.2 h1) (Rat.add_le_add_left.2 h2)
end Go.Proofs.Ytnbbhpihlcglgaa
