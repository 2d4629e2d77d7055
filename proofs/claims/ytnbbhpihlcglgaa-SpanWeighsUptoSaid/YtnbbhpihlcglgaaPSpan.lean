/- span.Scale -/
import Derived.Test.YtnbbhpihlcglgaaRowAll
import Derived.Test.YtnbbhpihlcglgaaPDelta2
import Derived.Test.YtnbbhpihlcglgaaRatAll
namespace Go.Proofs.Ytnbbhpihlcglgaa
open Go.RowKit Go.Att

/-- The lesser and the greater one, as the program takes them. -/
def mn (x y : Rat) : Rat := if (x - y).num.sign ≤ 0 then x else y
def mx (x y : Rat) : Rat := if 0 ≤ (x - y).num.sign then x else y
theorem sign_zero {x y : Rat} (h : (x - y).num.sign = 0) : x = y := by
  have h2 : x - y = 0 := Rat.num_eq_zero.1 (Int.sign_eq_zero_iff_zero.1 h)
  have e : x - y + y = x := by rw [Rat.sub_eq_add_neg, Rat.add_assoc, Rat.neg_add_cancel, Rat.add_zero]
  rw [h2, Rat.zero_add] at e
  exact e.symm

set_option maxHeartbeats 4000000 in
set_option linter.unusedSimpArgs false in
theorem sscale_any {w : World} {va vb : Value} {r a b : Rat} (hp : RdQ w va r) (hq : RdD w vb a b) (sr : Sz 1000000 r) (sa : Sz 1000000 a) (sb : Sz 1000000 b) :
    Calls Try.prog 81 #[va, vb] w (Gives w fun v' w' => OwnD 163 w.heap.size w' v' (mn (r * a) (r * b)) (mx (r * a) (r * b))) := by
  refine via fun R hR => ?_
  have SX : Hid (Sz 10000000 (r * a)) := (sr.mul sa).le (by decide)
  have SY : Hid (Sz 10000000 (r * b)) := (sr.mul sb).le (by decide)
  have SA := Lib.hid (sa.le (show 1000000 ≤ 10000000 by decide))
  have SB := Lib.hid (sb.le (show 1000000 ≤ 10000000 by decide))
  have SR := Lib.hid (sr.le (show 1000000 ≤ 10000000 by decide))
  generalize hx : r * a = x at *
  generalize hy : r * b = y at *
  have HX := Lib.hid hx
  have HY := Lib.hid hy
  have HA := Lib.hid hp
  obtain ⟨x1, x2, rfl, -, -⟩ := hp
  obtain ⟨y0, y1, y2, y3, y4, y5, rfl, h3, h4⟩ := hq
  have HC := Lib.hid h3
  have HD := Lib.hid h4
  obtain ⟨w1, hw1, b1, c1, c2, -, -, -, r3, -⟩ := bx3 w [.bool (decide (r.num < 0)), x1, x2] [y0, y1, y2, y3, y4, y5] [.bool false, .slice none 0 0, .slice none 0 0, .bool false, .slice none 0 0, .slice none 0 0] 32 34 34
  have C1 := Lib.hid c1
  have C2 := Lib.hid c2
  have RR : Hid (Rm w1 (w.heap.size + 1 + 1) 6) := r3
  have SZ := Lib.hid RR.out.lt
  have HW := Lib.hid hw1
  clear h3 h4 sr sa sb c1 c2 r3 hw1 hx hy
  go_enter Try.func81, Try.ntmps81
  go_upto_region 1 with (fail)
  rw [← HW.out]
  clear HW
  go_cut [5, 6] (fun s5 s6 wx => ∃ (B C : Nat) (n d n' d' : Value), s5 = .pointer (some ⟨B, 0, none⟩) ∧ s6 = .pointer (some ⟨C, 0, none⟩) ∧ Hid (w.heap.size + 1 + 1 ≠ B) ∧ Hid (w.heap.size + 1 + 1 ≠ C) ∧ Hid (TwoQ 163 w1 wx B C n d n' d' x y))
  case first =>
    refine wp_region_noPanic ?_
    refine region_cap fun O Q9 hO hQ => ?_
    obtain ⟨SS, hSS⟩ : ∃ SS : World → Prop, Hid (SS = fun w' => (w'.cell? ⟨w.heap.size, 0, none⟩ = some (.bool (decide (r.num < 0))) ∧ w'.cell? ⟨w.heap.size, 1, none⟩ = some (x1) ∧ w'.cell? ⟨w.heap.size, 2, none⟩ = some (x2)) ∧ (w'.cell? ⟨w.heap.size + 1, 0, none⟩ = some (y0) ∧ w'.cell? ⟨w.heap.size + 1, 1, none⟩ = some (y1) ∧ w'.cell? ⟨w.heap.size + 1, 2, none⟩ = some (y2) ∧ w'.cell? ⟨w.heap.size + 1, 3, none⟩ = some (y3) ∧ w'.cell? ⟨w.heap.size + 1, 4, none⟩ = some (y4) ∧ w'.cell? ⟨w.heap.size + 1, 5, none⟩ = some (y5))) := ⟨_, rfl⟩
    have KP : Hid (∀ wv, Ext w1 wv → SS wv) := fun wv XE => by rw [hSS.out]; exact ⟨(C1.out.ext XE).c3, (C2.out.ext XE).c6⟩
    have L2_8_9 : ∀ (wv : World) (v3 v7 : Value) (B8 B9 : Nat), Hid (Ext w1 wv) → Hid (OwnQ 163 w1.heap.size wv v3 x) → Hid (OwnQ 163 w1.heap.size wv v7 y) → Hid (Rt wv B8 3 32) → Hid (w1.heap.size ≤ B8) → Hid (Rt wv B9 3 32) → Hid (w1.heap.size ≤ B9) → Hid (B8 ≠ B9) → wpAnyH Try.prog .any O Q9 SS 2 #[true, true, true, true, true, true, true, true, true, true, false, false] ⟨#[.agg #[.bool (decide (r.num < 0)), x1, x2], .agg #[y0, y1, y2, y3, y4, y5], .pointer (some ⟨w.heap.size, 0, none⟩), .pointer (some ⟨w.heap.size + 1, 0, none⟩), .pointer (some ⟨w.heap.size + 1 + 1, 0, none⟩), .pointer (some ⟨B8, 0, none⟩), .pointer (some ⟨B9, 0, none⟩), .agg #[.bool (decide (r.num < 0)), x1, x2], .pointer (some ⟨w.heap.size + 1, 0, none⟩), .agg #[y0, y1, y2], v3, .agg #[.bool (decide (r.num < 0)), x1, x2], .pointer (some ⟨w.heap.size + 1, 3, none⟩), .agg #[y3, y4, y5], v7, undef, undef, undef, undef, undef, undef, undef], []⟩ wv := by
      intro wv v3 v7 B8 B9 hX p3 p7 r8 s8 r9 s9 ne8_9
      have hO1 := hO.out
      have hQ1 := hQ.out
      subst hO1
      subst hQ1
      have XE := hX.out
      have hHeld := KP.out _ XE
      have hS1 := hSS.out
      subst hS1
      obtain ⟨n3, d3, rfl, on3, od3⟩ := p3.out
      obtain ⟨n7, d7, rfl, on7, od7⟩ := p7.out
      obtain ⟨a3, c3, rfl, -, -, -, -⟩ := on3.rd.1.shape
      obtain ⟨a3', c3', rfl, -, -, -, -⟩ := od3.rd.1.shape
      obtain ⟨a7, c7, rfl, -, -, -, -⟩ := on7.rd.1.shape
      obtain ⟨a7', c7', rfl, -, -, -, -⟩ := od7.rd.1.shape
      obtain ⟨_, _, _, i0, i1, i2, f0, f1, f2⟩ := r8.out.rm.room3.cells
      obtain ⟨_, _, _, j0, j1, j2, g0, g1, g2⟩ := r9.out.rm.room3.cells
      have hne := ne8_9.out
      have hne' := Ne.symm hne
      refine wpAnyH_ready (rs := [10]) (by kernel_rfl) (by simp) ?_
      refine AllReadyH.cons (o := _) rfl (fun K hK => ?_) AllReadyH.nil
      go_simp
      refine hK.out _ _ (⟨((C1.out.ext XE).put3 (by have := s8.out; have := SZ.out; omega) _ _ _).c3, ((C2.out.ext XE).put3 (by have := s8.out; have := SZ.out; omega) _ _ _).c6⟩) (fun hHeld => ?_)
      clear hK K
      try simp only [Act.put, List.getElem_toArray, List.getElem_cons_succ, List.getElem_cons_zero, List.setIfInBounds_toArray, List.set_cons_zero, List.set_cons_succ]
      refine wpAnyH_ready (rs := [11]) (by kernel_rfl) (by simp) ?_
      refine AllReadyH.cons (o := _) rfl (fun K hK => ?_) AllReadyH.nil
      go_simp
      refine hK.out _ _ (⟨(((C1.out.ext XE).put3 (by have := s8.out; have := SZ.out; omega) _ _ _).put3 (by have := s9.out; have := SZ.out; omega) _ _ _).c3, (((C2.out.ext XE).put3 (by have := s8.out; have := SZ.out; omega) _ _ _).put3 (by have := s9.out; have := SZ.out; omega) _ _ _).c6⟩) (fun hHeld => ?_)
      clear hK K
      try simp only [Act.put, List.getElem_toArray, List.getElem_cons_succ, List.getElem_cons_zero, List.setIfInBounds_toArray, List.set_cons_zero, List.set_cons_succ]
      refine wpAnyH_done (by kernel_rfl) ?_ _
      refine NoPanic.normal ?_
      go_wp2_with fail
      go_meet
      exact ⟨_, _, _, _, _, _, rfl, rfl, (by show _ ≠ _; have := s8.out; have := SZ.out; omega), (by show _ ≠ _; have := s9.out; have := SZ.out; omega), TwoQ.mk (by decide) hX.out r8.out r9.out s8.out s9.out ne8_9.out ⟨_, _, rfl, on3, od3⟩ ⟨_, _, rfl, on7, od7⟩⟩
    have L1_8_9 : ∀ (wv : World) (v3 : Value) (B8 B9 : Nat), Hid (Ext w1 wv) → Hid (OwnQ 163 w1.heap.size wv v3 x) → Hid (Rt wv B8 3 32) → Hid (w1.heap.size ≤ B8) → Hid (Rt wv B9 3 32) → Hid (w1.heap.size ≤ B9) → Hid (B8 ≠ B9) → wpAnyH Try.prog .any O Q9 SS 3 #[true, true, true, true, true, true, true, false, true, true, false, false] ⟨#[.agg #[.bool (decide (r.num < 0)), x1, x2], .agg #[y0, y1, y2, y3, y4, y5], .pointer (some ⟨w.heap.size, 0, none⟩), .pointer (some ⟨w.heap.size + 1, 0, none⟩), .pointer (some ⟨w.heap.size + 1 + 1, 0, none⟩), .pointer (some ⟨B8, 0, none⟩), .pointer (some ⟨B9, 0, none⟩), .agg #[.bool (decide (r.num < 0)), x1, x2], .pointer (some ⟨w.heap.size + 1, 0, none⟩), .agg #[y0, y1, y2], v3, .agg #[.bool (decide (r.num < 0)), x1, x2], .pointer (some ⟨w.heap.size + 1, 3, none⟩), .agg #[y3, y4, y5], undef, undef, undef, undef, undef, undef, undef, undef], []⟩ wv := by
      intro wv v3 B8 B9 hX p3 r8 s8 r9 s9 ne8_9
      have hO1 := hO.out
      have hQ1 := hQ.out
      subst hO1
      subst hQ1
      have XE := hX.out
      refine wpAnyH_ready (rs := [7]) (by kernel_rfl) (by simp) ?_
      refine AllReadyH.cons (o := _) rfl (fun K hK => ?_) AllReadyH.nil
      · skip
        go_simp
        go_at_call 29
        refine (HY.out ▸ rmul_any (HA.out.ext (Ext.trans b1 XE)) (HD.out.ext (Ext.trans b1 XE)) SR.out SB.out).mono ?_
        rintro e wn ⟨vn, rfl, bn, on⟩
        go_wp2_with fail
        refine hK.out _ _ (KP.out _ (Ext.trans XE bn)) (fun _ => ?_)
        clear hK K
        try simp only [Act.put, List.getElem_toArray, List.getElem_cons_succ, List.getElem_cons_zero, List.setIfInBounds_toArray, List.set_cons_zero, List.set_cons_succ]
        exact wpAnyH_to (L2_8_9 wn v3 vn B8 B9 (Ext.trans XE bn) (p3.out.ext bn) (on.mono (Below.size XE)) (r8.out.ext bn) s8 (r9.out.ext bn) s9 ne8_9) (by kernel_rfl) (by kernel_rfl) rfl rfl
    have L2_8 : ∀ (wv : World) (v3 v7 : Value) (B8 : Nat), Hid (Ext w1 wv) → Hid (OwnQ 163 w1.heap.size wv v3 x) → Hid (OwnQ 163 w1.heap.size wv v7 y) → Hid (Rt wv B8 3 32) → Hid (w1.heap.size ≤ B8) → wpAnyH Try.prog .any O Q9 SS 3 #[true, true, true, true, true, true, true, true, true, false, false, false] ⟨#[.agg #[.bool (decide (r.num < 0)), x1, x2], .agg #[y0, y1, y2, y3, y4, y5], .pointer (some ⟨w.heap.size, 0, none⟩), .pointer (some ⟨w.heap.size + 1, 0, none⟩), .pointer (some ⟨w.heap.size + 1 + 1, 0, none⟩), .pointer (some ⟨B8, 0, none⟩), undef, .agg #[.bool (decide (r.num < 0)), x1, x2], .pointer (some ⟨w.heap.size + 1, 0, none⟩), .agg #[y0, y1, y2], v3, .agg #[.bool (decide (r.num < 0)), x1, x2], .pointer (some ⟨w.heap.size + 1, 3, none⟩), .agg #[y3, y4, y5], v7, undef, undef, undef, undef, undef, undef, undef], []⟩ wv := by
      intro wv v3 v7 B8 hX p3 p7 r8 s8
      have hO1 := hO.out
      have hQ1 := hQ.out
      subst hO1
      subst hQ1
      have XE := hX.out
      refine wpAnyH_ready (rs := [9]) (by kernel_rfl) (by simp) ?_
      refine AllReadyH.cons (o := _) rfl (fun K hK => ?_) AllReadyH.nil
      · skip
        go_simp
        refine hK.out _ _ (KP.out _ (Ext.trans XE (Ext.alloc wv (.cells [.bool false, .slice none 0 0, .slice none 0 0].toArray 32)))) (fun _ => ?_)
        clear hK K
        try simp only [Act.put, List.getElem_toArray, List.getElem_cons_succ, List.getElem_cons_zero, List.setIfInBounds_toArray, List.set_cons_zero, List.set_cons_succ]
        exact wpAnyH_to (L2_8_9 _ v3 v7 B8 wv.heap.size (Ext.trans XE (Ext.alloc wv (.cells [.bool false, .slice none 0 0, .slice none 0 0].toArray 32))) (p3.out.ext (Ext.alloc wv (.cells [.bool false, .slice none 0 0, .slice none 0 0].toArray 32))) (p7.out.ext (Ext.alloc wv (.cells [.bool false, .slice none 0 0, .slice none 0 0].toArray 32))) (r8.out.ext (Ext.alloc wv (.cells [.bool false, .slice none 0 0, .slice none 0 0].toArray 32))) s8 (Rt.new wv [.bool false, .slice none 0 0, .slice none 0 0] 32) (Below.size XE) (Nat.ne_of_lt r8.out.lt)) (by kernel_rfl) (by kernel_rfl) rfl rfl
    have L2_9 : ∀ (wv : World) (v3 v7 : Value) (B9 : Nat), Hid (Ext w1 wv) → Hid (OwnQ 163 w1.heap.size wv v3 x) → Hid (OwnQ 163 w1.heap.size wv v7 y) → Hid (Rt wv B9 3 32) → Hid (w1.heap.size ≤ B9) → wpAnyH Try.prog .any O Q9 SS 3 #[true, true, true, true, true, true, true, true, false, true, false, false] ⟨#[.agg #[.bool (decide (r.num < 0)), x1, x2], .agg #[y0, y1, y2, y3, y4, y5], .pointer (some ⟨w.heap.size, 0, none⟩), .pointer (some ⟨w.heap.size + 1, 0, none⟩), .pointer (some ⟨w.heap.size + 1 + 1, 0, none⟩), undef, .pointer (some ⟨B9, 0, none⟩), .agg #[.bool (decide (r.num < 0)), x1, x2], .pointer (some ⟨w.heap.size + 1, 0, none⟩), .agg #[y0, y1, y2], v3, .agg #[.bool (decide (r.num < 0)), x1, x2], .pointer (some ⟨w.heap.size + 1, 3, none⟩), .agg #[y3, y4, y5], v7, undef, undef, undef, undef, undef, undef, undef], []⟩ wv := by
      intro wv v3 v7 B9 hX p3 p7 r9 s9
      have hO1 := hO.out
      have hQ1 := hQ.out
      subst hO1
      subst hQ1
      have XE := hX.out
      refine wpAnyH_ready (rs := [8]) (by kernel_rfl) (by simp) ?_
      refine AllReadyH.cons (o := _) rfl (fun K hK => ?_) AllReadyH.nil
      · skip
        go_simp
        refine hK.out _ _ (KP.out _ (Ext.trans XE (Ext.alloc wv (.cells [.bool false, .slice none 0 0, .slice none 0 0].toArray 32)))) (fun _ => ?_)
        clear hK K
        try simp only [Act.put, List.getElem_toArray, List.getElem_cons_succ, List.getElem_cons_zero, List.setIfInBounds_toArray, List.set_cons_zero, List.set_cons_succ]
        exact wpAnyH_to (L2_8_9 _ v3 v7 wv.heap.size B9 (Ext.trans XE (Ext.alloc wv (.cells [.bool false, .slice none 0 0, .slice none 0 0].toArray 32))) (p3.out.ext (Ext.alloc wv (.cells [.bool false, .slice none 0 0, .slice none 0 0].toArray 32))) (p7.out.ext (Ext.alloc wv (.cells [.bool false, .slice none 0 0, .slice none 0 0].toArray 32))) (Rt.new wv [.bool false, .slice none 0 0, .slice none 0 0] 32) (Below.size XE) (r9.out.ext (Ext.alloc wv (.cells [.bool false, .slice none 0 0, .slice none 0 0].toArray 32))) s9 (Nat.ne_of_gt r9.out.lt)) (by kernel_rfl) (by kernel_rfl) rfl rfl
    have L0_8_9 : ∀ (wv : World) (B8 B9 : Nat), Hid (Ext w1 wv) → Hid (Rt wv B8 3 32) → Hid (w1.heap.size ≤ B8) → Hid (Rt wv B9 3 32) → Hid (w1.heap.size ≤ B9) → Hid (B8 ≠ B9) → wpAnyH Try.prog .any O Q9 SS 4 #[true, true, true, false, true, true, true, false, true, true, false, false] ⟨#[.agg #[.bool (decide (r.num < 0)), x1, x2], .agg #[y0, y1, y2, y3, y4, y5], .pointer (some ⟨w.heap.size, 0, none⟩), .pointer (some ⟨w.heap.size + 1, 0, none⟩), .pointer (some ⟨w.heap.size + 1 + 1, 0, none⟩), .pointer (some ⟨B8, 0, none⟩), .pointer (some ⟨B9, 0, none⟩), .agg #[.bool (decide (r.num < 0)), x1, x2], .pointer (some ⟨w.heap.size + 1, 0, none⟩), .agg #[y0, y1, y2], undef, .agg #[.bool (decide (r.num < 0)), x1, x2], .pointer (some ⟨w.heap.size + 1, 3, none⟩), .agg #[y3, y4, y5], undef, undef, undef, undef, undef, undef, undef, undef], []⟩ wv := by
      intro wv B8 B9 hX r8 s8 r9 s9 ne8_9
      have hO1 := hO.out
      have hQ1 := hQ.out
      subst hO1
      subst hQ1
      have XE := hX.out
      refine wpAnyH_ready (rs := [3]) (by kernel_rfl) (by simp) ?_
      refine AllReadyH.cons (o := _) rfl (fun K hK => ?_) AllReadyH.nil
      · skip
        go_simp
        go_at_call 29
        refine (HX.out ▸ rmul_any (HA.out.ext (Ext.trans b1 XE)) (HC.out.ext (Ext.trans b1 XE)) SR.out SA.out).mono ?_
        rintro e wn ⟨vn, rfl, bn, on⟩
        go_wp2_with fail
        refine hK.out _ _ (KP.out _ (Ext.trans XE bn)) (fun _ => ?_)
        clear hK K
        try simp only [Act.put, List.getElem_toArray, List.getElem_cons_succ, List.getElem_cons_zero, List.setIfInBounds_toArray, List.set_cons_zero, List.set_cons_succ]
        exact wpAnyH_to (L1_8_9 wn vn B8 B9 (Ext.trans XE bn) (on.mono (Below.size XE)) (r8.out.ext bn) s8 (r9.out.ext bn) s9 ne8_9) (by kernel_rfl) (by kernel_rfl) rfl rfl
    have L1_8 : ∀ (wv : World) (v3 : Value) (B8 : Nat), Hid (Ext w1 wv) → Hid (OwnQ 163 w1.heap.size wv v3 x) → Hid (Rt wv B8 3 32) → Hid (w1.heap.size ≤ B8) → wpAnyH Try.prog .any O Q9 SS 4 #[true, true, true, true, true, true, true, false, true, false, false, false] ⟨#[.agg #[.bool (decide (r.num < 0)), x1, x2], .agg #[y0, y1, y2, y3, y4, y5], .pointer (some ⟨w.heap.size, 0, none⟩), .pointer (some ⟨w.heap.size + 1, 0, none⟩), .pointer (some ⟨w.heap.size + 1 + 1, 0, none⟩), .pointer (some ⟨B8, 0, none⟩), undef, .agg #[.bool (decide (r.num < 0)), x1, x2], .pointer (some ⟨w.heap.size + 1, 0, none⟩), .agg #[y0, y1, y2], v3, .agg #[.bool (decide (r.num < 0)), x1, x2], .pointer (some ⟨w.heap.size + 1, 3, none⟩), .agg #[y3, y4, y5], undef, undef, undef, undef, undef, undef, undef, undef], []⟩ wv := by
      intro wv v3 B8 hX p3 r8 s8
      have hO1 := hO.out
      have hQ1 := hQ.out
      subst hO1
      subst hQ1
      have XE := hX.out
      refine wpAnyH_ready (rs := [7, 9]) (by kernel_rfl) (by simp) ?_
      refine AllReadyH.cons (o := _) rfl (fun K hK => ?_) (AllReadyH.cons (o := _) rfl (fun K hK => ?_) AllReadyH.nil)
      · skip
        go_simp
        go_at_call 29
        refine (HY.out ▸ rmul_any (HA.out.ext (Ext.trans b1 XE)) (HD.out.ext (Ext.trans b1 XE)) SR.out SB.out).mono ?_
        rintro e wn ⟨vn, rfl, bn, on⟩
        go_wp2_with fail
        refine hK.out _ _ (KP.out _ (Ext.trans XE bn)) (fun _ => ?_)
        clear hK K
        try simp only [Act.put, List.getElem_toArray, List.getElem_cons_succ, List.getElem_cons_zero, List.setIfInBounds_toArray, List.set_cons_zero, List.set_cons_succ]
        exact wpAnyH_to (L2_8 wn v3 vn B8 (Ext.trans XE bn) (p3.out.ext bn) (on.mono (Below.size XE)) (r8.out.ext bn) s8) (by kernel_rfl) (by kernel_rfl) rfl rfl
      · skip
        go_simp
        refine hK.out _ _ (KP.out _ (Ext.trans XE (Ext.alloc wv (.cells [.bool false, .slice none 0 0, .slice none 0 0].toArray 32)))) (fun _ => ?_)
        clear hK K
        try simp only [Act.put, List.getElem_toArray, List.getElem_cons_succ, List.getElem_cons_zero, List.setIfInBounds_toArray, List.set_cons_zero, List.set_cons_succ]
        exact wpAnyH_to (L1_8_9 _ v3 B8 wv.heap.size (Ext.trans XE (Ext.alloc wv (.cells [.bool false, .slice none 0 0, .slice none 0 0].toArray 32))) (p3.out.ext (Ext.alloc wv (.cells [.bool false, .slice none 0 0, .slice none 0 0].toArray 32))) (r8.out.ext (Ext.alloc wv (.cells [.bool false, .slice none 0 0, .slice none 0 0].toArray 32))) s8 (Rt.new wv [.bool false, .slice none 0 0, .slice none 0 0] 32) (Below.size XE) (Nat.ne_of_lt r8.out.lt)) (by kernel_rfl) (by kernel_rfl) rfl rfl
    have L1_9 : ∀ (wv : World) (v3 : Value) (B9 : Nat), Hid (Ext w1 wv) → Hid (OwnQ 163 w1.heap.size wv v3 x) → Hid (Rt wv B9 3 32) → Hid (w1.heap.size ≤ B9) → wpAnyH Try.prog .any O Q9 SS 4 #[true, true, true, true, true, true, true, false, false, true, false, false] ⟨#[.agg #[.bool (decide (r.num < 0)), x1, x2], .agg #[y0, y1, y2, y3, y4, y5], .pointer (some ⟨w.heap.size, 0, none⟩), .pointer (some ⟨w.heap.size + 1, 0, none⟩), .pointer (some ⟨w.heap.size + 1 + 1, 0, none⟩), undef, .pointer (some ⟨B9, 0, none⟩), .agg #[.bool (decide (r.num < 0)), x1, x2], .pointer (some ⟨w.heap.size + 1, 0, none⟩), .agg #[y0, y1, y2], v3, .agg #[.bool (decide (r.num < 0)), x1, x2], .pointer (some ⟨w.heap.size + 1, 3, none⟩), .agg #[y3, y4, y5], undef, undef, undef, undef, undef, undef, undef, undef], []⟩ wv := by
      intro wv v3 B9 hX p3 r9 s9
      have hO1 := hO.out
      have hQ1 := hQ.out
      subst hO1
      subst hQ1
      have XE := hX.out
      refine wpAnyH_ready (rs := [7, 8]) (by kernel_rfl) (by simp) ?_
      refine AllReadyH.cons (o := _) rfl (fun K hK => ?_) (AllReadyH.cons (o := _) rfl (fun K hK => ?_) AllReadyH.nil)
      · skip
        go_simp
        go_at_call 29
        refine (HY.out ▸ rmul_any (HA.out.ext (Ext.trans b1 XE)) (HD.out.ext (Ext.trans b1 XE)) SR.out SB.out).mono ?_
        rintro e wn ⟨vn, rfl, bn, on⟩
        go_wp2_with fail
        refine hK.out _ _ (KP.out _ (Ext.trans XE bn)) (fun _ => ?_)
        clear hK K
        try simp only [Act.put, List.getElem_toArray, List.getElem_cons_succ, List.getElem_cons_zero, List.setIfInBounds_toArray, List.set_cons_zero, List.set_cons_succ]
        exact wpAnyH_to (L2_9 wn v3 vn B9 (Ext.trans XE bn) (p3.out.ext bn) (on.mono (Below.size XE)) (r9.out.ext bn) s9) (by kernel_rfl) (by kernel_rfl) rfl rfl
      · skip
        go_simp
        refine hK.out _ _ (KP.out _ (Ext.trans XE (Ext.alloc wv (.cells [.bool false, .slice none 0 0, .slice none 0 0].toArray 32)))) (fun _ => ?_)
        clear hK K
        try simp only [Act.put, List.getElem_toArray, List.getElem_cons_succ, List.getElem_cons_zero, List.setIfInBounds_toArray, List.set_cons_zero, List.set_cons_succ]
        exact wpAnyH_to (L1_8_9 _ v3 wv.heap.size B9 (Ext.trans XE (Ext.alloc wv (.cells [.bool false, .slice none 0 0, .slice none 0 0].toArray 32))) (p3.out.ext (Ext.alloc wv (.cells [.bool false, .slice none 0 0, .slice none 0 0].toArray 32))) (Rt.new wv [.bool false, .slice none 0 0, .slice none 0 0] 32) (Below.size XE) (r9.out.ext (Ext.alloc wv (.cells [.bool false, .slice none 0 0, .slice none 0 0].toArray 32))) s9 (Nat.ne_of_gt r9.out.lt)) (by kernel_rfl) (by kernel_rfl) rfl rfl
    have L2_ : ∀ (wv : World) (v3 v7 : Value), Hid (Ext w1 wv) → Hid (OwnQ 163 w1.heap.size wv v3 x) → Hid (OwnQ 163 w1.heap.size wv v7 y) → wpAnyH Try.prog .any O Q9 SS 4 #[true, true, true, true, true, true, true, true, false, false, false, false] ⟨#[.agg #[.bool (decide (r.num < 0)), x1, x2], .agg #[y0, y1, y2, y3, y4, y5], .pointer (some ⟨w.heap.size, 0, none⟩), .pointer (some ⟨w.heap.size + 1, 0, none⟩), .pointer (some ⟨w.heap.size + 1 + 1, 0, none⟩), undef, undef, .agg #[.bool (decide (r.num < 0)), x1, x2], .pointer (some ⟨w.heap.size + 1, 0, none⟩), .agg #[y0, y1, y2], v3, .agg #[.bool (decide (r.num < 0)), x1, x2], .pointer (some ⟨w.heap.size + 1, 3, none⟩), .agg #[y3, y4, y5], v7, undef, undef, undef, undef, undef, undef, undef], []⟩ wv := by
      intro wv v3 v7 hX p3 p7
      have hO1 := hO.out
      have hQ1 := hQ.out
      subst hO1
      subst hQ1
      have XE := hX.out
      refine wpAnyH_ready (rs := [8, 9]) (by kernel_rfl) (by simp) ?_
      refine AllReadyH.cons (o := _) rfl (fun K hK => ?_) (AllReadyH.cons (o := _) rfl (fun K hK => ?_) AllReadyH.nil)
      · skip
        go_simp
        refine hK.out _ _ (KP.out _ (Ext.trans XE (Ext.alloc wv (.cells [.bool false, .slice none 0 0, .slice none 0 0].toArray 32)))) (fun _ => ?_)
        clear hK K
        try simp only [Act.put, List.getElem_toArray, List.getElem_cons_succ, List.getElem_cons_zero, List.setIfInBounds_toArray, List.set_cons_zero, List.set_cons_succ]
        exact wpAnyH_to (L2_8 _ v3 v7 wv.heap.size (Ext.trans XE (Ext.alloc wv (.cells [.bool false, .slice none 0 0, .slice none 0 0].toArray 32))) (p3.out.ext (Ext.alloc wv (.cells [.bool false, .slice none 0 0, .slice none 0 0].toArray 32))) (p7.out.ext (Ext.alloc wv (.cells [.bool false, .slice none 0 0, .slice none 0 0].toArray 32))) (Rt.new wv [.bool false, .slice none 0 0, .slice none 0 0] 32) (Below.size XE)) (by kernel_rfl) (by kernel_rfl) rfl rfl
      · skip
        go_simp
        refine hK.out _ _ (KP.out _ (Ext.trans XE (Ext.alloc wv (.cells [.bool false, .slice none 0 0, .slice none 0 0].toArray 32)))) (fun _ => ?_)
        clear hK K
        try simp only [Act.put, List.getElem_toArray, List.getElem_cons_succ, List.getElem_cons_zero, List.setIfInBounds_toArray, List.set_cons_zero, List.set_cons_succ]
        exact wpAnyH_to (L2_9 _ v3 v7 wv.heap.size (Ext.trans XE (Ext.alloc wv (.cells [.bool false, .slice none 0 0, .slice none 0 0].toArray 32))) (p3.out.ext (Ext.alloc wv (.cells [.bool false, .slice none 0 0, .slice none 0 0].toArray 32))) (p7.out.ext (Ext.alloc wv (.cells [.bool false, .slice none 0 0, .slice none 0 0].toArray 32))) (Rt.new wv [.bool false, .slice none 0 0, .slice none 0 0] 32) (Below.size XE)) (by kernel_rfl) (by kernel_rfl) rfl rfl
    have L0_8 : ∀ (wv : World) (B8 : Nat), Hid (Ext w1 wv) → Hid (Rt wv B8 3 32) → Hid (w1.heap.size ≤ B8) → wpAnyH Try.prog .any O Q9 SS 5 #[true, true, true, false, true, true, true, false, true, false, false, false] ⟨#[.agg #[.bool (decide (r.num < 0)), x1, x2], .agg #[y0, y1, y2, y3, y4, y5], .pointer (some ⟨w.heap.size, 0, none⟩), .pointer (some ⟨w.heap.size + 1, 0, none⟩), .pointer (some ⟨w.heap.size + 1 + 1, 0, none⟩), .pointer (some ⟨B8, 0, none⟩), undef, .agg #[.bool (decide (r.num < 0)), x1, x2], .pointer (some ⟨w.heap.size + 1, 0, none⟩), .agg #[y0, y1, y2], undef, .agg #[.bool (decide (r.num < 0)), x1, x2], .pointer (some ⟨w.heap.size + 1, 3, none⟩), .agg #[y3, y4, y5], undef, undef, undef, undef, undef, undef, undef, undef], []⟩ wv := by
      intro wv B8 hX r8 s8
      have hO1 := hO.out
      have hQ1 := hQ.out
      subst hO1
      subst hQ1
      have XE := hX.out
      refine wpAnyH_ready (rs := [3, 9]) (by kernel_rfl) (by simp) ?_
      refine AllReadyH.cons (o := _) rfl (fun K hK => ?_) (AllReadyH.cons (o := _) rfl (fun K hK => ?_) AllReadyH.nil)
      · skip
        go_simp
        go_at_call 29
        refine (HX.out ▸ rmul_any (HA.out.ext (Ext.trans b1 XE)) (HC.out.ext (Ext.trans b1 XE)) SR.out SA.out).mono ?_
        rintro e wn ⟨vn, rfl, bn, on⟩
        go_wp2_with fail
        refine hK.out _ _ (KP.out _ (Ext.trans XE bn)) (fun _ => ?_)
        clear hK K
        try simp only [Act.put, List.getElem_toArray, List.getElem_cons_succ, List.getElem_cons_zero, List.setIfInBounds_toArray, List.set_cons_zero, List.set_cons_succ]
        exact wpAnyH_to (L1_8 wn vn B8 (Ext.trans XE bn) (on.mono (Below.size XE)) (r8.out.ext bn) s8) (by kernel_rfl) (by kernel_rfl) rfl rfl
      · skip
        go_simp
        refine hK.out _ _ (KP.out _ (Ext.trans XE (Ext.alloc wv (.cells [.bool false, .slice none 0 0, .slice none 0 0].toArray 32)))) (fun _ => ?_)
        clear hK K
        try simp only [Act.put, List.getElem_toArray, List.getElem_cons_succ, List.getElem_cons_zero, List.setIfInBounds_toArray, List.set_cons_zero, List.set_cons_succ]
        exact wpAnyH_to (L0_8_9 _ B8 wv.heap.size (Ext.trans XE (Ext.alloc wv (.cells [.bool false, .slice none 0 0, .slice none 0 0].toArray 32))) (r8.out.ext (Ext.alloc wv (.cells [.bool false, .slice none 0 0, .slice none 0 0].toArray 32))) s8 (Rt.new wv [.bool false, .slice none 0 0, .slice none 0 0] 32) (Below.size XE) (Nat.ne_of_lt r8.out.lt)) (by kernel_rfl) (by kernel_rfl) rfl rfl
    have L0_9 : ∀ (wv : World) (B9 : Nat), Hid (Ext w1 wv) → Hid (Rt wv B9 3 32) → Hid (w1.heap.size ≤ B9) → wpAnyH Try.prog .any O Q9 SS 5 #[true, true, true, false, true, true, true, false, false, true, false, false] ⟨#[.agg #[.bool (decide (r.num < 0)), x1, x2], .agg #[y0, y1, y2, y3, y4, y5], .pointer (some ⟨w.heap.size, 0, none⟩), .pointer (some ⟨w.heap.size + 1, 0, none⟩), .pointer (some ⟨w.heap.size + 1 + 1, 0, none⟩), undef, .pointer (some ⟨B9, 0, none⟩), .agg #[.bool (decide (r.num < 0)), x1, x2], .pointer (some ⟨w.heap.size + 1, 0, none⟩), .agg #[y0, y1, y2], undef, .agg #[.bool (decide (r.num < 0)), x1, x2], .pointer (some ⟨w.heap.size + 1, 3, none⟩), .agg #[y3, y4, y5], undef, undef, undef, undef, undef, undef, undef, undef], []⟩ wv := by
      intro wv B9 hX r9 s9
      have hO1 := hO.out
      have hQ1 := hQ.out
      subst hO1
      subst hQ1
      have XE := hX.out
      refine wpAnyH_ready (rs := [3, 8]) (by kernel_rfl) (by simp) ?_
      refine AllReadyH.cons (o := _) rfl (fun K hK => ?_) (AllReadyH.cons (o := _) rfl (fun K hK => ?_) AllReadyH.nil)
      · skip
        go_simp
        go_at_call 29
        refine (HX.out ▸ rmul_any (HA.out.ext (Ext.trans b1 XE)) (HC.out.ext (Ext.trans b1 XE)) SR.out SA.out).mono ?_
        rintro e wn ⟨vn, rfl, bn, on⟩
        go_wp2_with fail
        refine hK.out _ _ (KP.out _ (Ext.trans XE bn)) (fun _ => ?_)
        clear hK K
        try simp only [Act.put, List.getElem_toArray, List.getElem_cons_succ, List.getElem_cons_zero, List.setIfInBounds_toArray, List.set_cons_zero, List.set_cons_succ]
        exact wpAnyH_to (L1_9 wn vn B9 (Ext.trans XE bn) (on.mono (Below.size XE)) (r9.out.ext bn) s9) (by kernel_rfl) (by kernel_rfl) rfl rfl
      · skip
        go_simp
        refine hK.out _ _ (KP.out _ (Ext.trans XE (Ext.alloc wv (.cells [.bool false, .slice none 0 0, .slice none 0 0].toArray 32)))) (fun _ => ?_)
        clear hK K
        try simp only [Act.put, List.getElem_toArray, List.getElem_cons_succ, List.getElem_cons_zero, List.setIfInBounds_toArray, List.set_cons_zero, List.set_cons_succ]
        exact wpAnyH_to (L0_8_9 _ wv.heap.size B9 (Ext.trans XE (Ext.alloc wv (.cells [.bool false, .slice none 0 0, .slice none 0 0].toArray 32))) (Rt.new wv [.bool false, .slice none 0 0, .slice none 0 0] 32) (Below.size XE) (r9.out.ext (Ext.alloc wv (.cells [.bool false, .slice none 0 0, .slice none 0 0].toArray 32))) s9 (Nat.ne_of_gt r9.out.lt)) (by kernel_rfl) (by kernel_rfl) rfl rfl
    have L1_ : ∀ (wv : World) (v3 : Value), Hid (Ext w1 wv) → Hid (OwnQ 163 w1.heap.size wv v3 x) → wpAnyH Try.prog .any O Q9 SS 5 #[true, true, true, true, true, true, true, false, false, false, false, false] ⟨#[.agg #[.bool (decide (r.num < 0)), x1, x2], .agg #[y0, y1, y2, y3, y4, y5], .pointer (some ⟨w.heap.size, 0, none⟩), .pointer (some ⟨w.heap.size + 1, 0, none⟩), .pointer (some ⟨w.heap.size + 1 + 1, 0, none⟩), undef, undef, .agg #[.bool (decide (r.num < 0)), x1, x2], .pointer (some ⟨w.heap.size + 1, 0, none⟩), .agg #[y0, y1, y2], v3, .agg #[.bool (decide (r.num < 0)), x1, x2], .pointer (some ⟨w.heap.size + 1, 3, none⟩), .agg #[y3, y4, y5], undef, undef, undef, undef, undef, undef, undef, undef], []⟩ wv := by
      intro wv v3 hX p3
      have hO1 := hO.out
      have hQ1 := hQ.out
      subst hO1
      subst hQ1
      have XE := hX.out
      refine wpAnyH_ready (rs := [7, 8, 9]) (by kernel_rfl) (by simp) ?_
      refine AllReadyH.cons (o := _) rfl (fun K hK => ?_) (AllReadyH.cons (o := _) rfl (fun K hK => ?_) (AllReadyH.cons (o := _) rfl (fun K hK => ?_) AllReadyH.nil))
      · skip
        go_simp
        go_at_call 29
        refine (HY.out ▸ rmul_any (HA.out.ext (Ext.trans b1 XE)) (HD.out.ext (Ext.trans b1 XE)) SR.out SB.out).mono ?_
        rintro e wn ⟨vn, rfl, bn, on⟩
        go_wp2_with fail
        refine hK.out _ _ (KP.out _ (Ext.trans XE bn)) (fun _ => ?_)
        clear hK K
        try simp only [Act.put, List.getElem_toArray, List.getElem_cons_succ, List.getElem_cons_zero, List.setIfInBounds_toArray, List.set_cons_zero, List.set_cons_succ]
        exact wpAnyH_to (L2_ wn v3 vn (Ext.trans XE bn) (p3.out.ext bn) (on.mono (Below.size XE))) (by kernel_rfl) (by kernel_rfl) rfl rfl
      · skip
        go_simp
        refine hK.out _ _ (KP.out _ (Ext.trans XE (Ext.alloc wv (.cells [.bool false, .slice none 0 0, .slice none 0 0].toArray 32)))) (fun _ => ?_)
        clear hK K
        try simp only [Act.put, List.getElem_toArray, List.getElem_cons_succ, List.getElem_cons_zero, List.setIfInBounds_toArray, List.set_cons_zero, List.set_cons_succ]
        exact wpAnyH_to (L1_8 _ v3 wv.heap.size (Ext.trans XE (Ext.alloc wv (.cells [.bool false, .slice none 0 0, .slice none 0 0].toArray 32))) (p3.out.ext (Ext.alloc wv (.cells [.bool false, .slice none 0 0, .slice none 0 0].toArray 32))) (Rt.new wv [.bool false, .slice none 0 0, .slice none 0 0] 32) (Below.size XE)) (by kernel_rfl) (by kernel_rfl) rfl rfl
      · skip
        go_simp
        refine hK.out _ _ (KP.out _ (Ext.trans XE (Ext.alloc wv (.cells [.bool false, .slice none 0 0, .slice none 0 0].toArray 32)))) (fun _ => ?_)
        clear hK K
        try simp only [Act.put, List.getElem_toArray, List.getElem_cons_succ, List.getElem_cons_zero, List.setIfInBounds_toArray, List.set_cons_zero, List.set_cons_succ]
        exact wpAnyH_to (L1_9 _ v3 wv.heap.size (Ext.trans XE (Ext.alloc wv (.cells [.bool false, .slice none 0 0, .slice none 0 0].toArray 32))) (p3.out.ext (Ext.alloc wv (.cells [.bool false, .slice none 0 0, .slice none 0 0].toArray 32))) (Rt.new wv [.bool false, .slice none 0 0, .slice none 0 0] 32) (Below.size XE)) (by kernel_rfl) (by kernel_rfl) rfl rfl
    have L0_ : ∀ (wv : World), Hid (Ext w1 wv) → wpAnyH Try.prog .any O Q9 SS 6 #[true, true, true, false, true, true, true, false, false, false, false, false] ⟨#[.agg #[.bool (decide (r.num < 0)), x1, x2], .agg #[y0, y1, y2, y3, y4, y5], .pointer (some ⟨w.heap.size, 0, none⟩), .pointer (some ⟨w.heap.size + 1, 0, none⟩), .pointer (some ⟨w.heap.size + 1 + 1, 0, none⟩), undef, undef, .agg #[.bool (decide (r.num < 0)), x1, x2], .pointer (some ⟨w.heap.size + 1, 0, none⟩), .agg #[y0, y1, y2], undef, .agg #[.bool (decide (r.num < 0)), x1, x2], .pointer (some ⟨w.heap.size + 1, 3, none⟩), .agg #[y3, y4, y5], undef, undef, undef, undef, undef, undef, undef, undef], []⟩ wv := by
      intro wv hX
      have hO1 := hO.out
      have hQ1 := hQ.out
      subst hO1
      subst hQ1
      have XE := hX.out
      refine wpAnyH_ready (rs := [3, 8, 9]) (by kernel_rfl) (by simp) ?_
      refine AllReadyH.cons (o := _) rfl (fun K hK => ?_) (AllReadyH.cons (o := _) rfl (fun K hK => ?_) (AllReadyH.cons (o := _) rfl (fun K hK => ?_) AllReadyH.nil))
      · skip
        go_simp
        go_at_call 29
        refine (HX.out ▸ rmul_any (HA.out.ext (Ext.trans b1 XE)) (HC.out.ext (Ext.trans b1 XE)) SR.out SA.out).mono ?_
        rintro e wn ⟨vn, rfl, bn, on⟩
        go_wp2_with fail
        refine hK.out _ _ (KP.out _ (Ext.trans XE bn)) (fun _ => ?_)
        clear hK K
        try simp only [Act.put, List.getElem_toArray, List.getElem_cons_succ, List.getElem_cons_zero, List.setIfInBounds_toArray, List.set_cons_zero, List.set_cons_succ]
        exact wpAnyH_to (L1_ wn vn (Ext.trans XE bn) (on.mono (Below.size XE))) (by kernel_rfl) (by kernel_rfl) rfl rfl
      · skip
        go_simp
        refine hK.out _ _ (KP.out _ (Ext.trans XE (Ext.alloc wv (.cells [.bool false, .slice none 0 0, .slice none 0 0].toArray 32)))) (fun _ => ?_)
        clear hK K
        try simp only [Act.put, List.getElem_toArray, List.getElem_cons_succ, List.getElem_cons_zero, List.setIfInBounds_toArray, List.set_cons_zero, List.set_cons_succ]
        exact wpAnyH_to (L0_8 _ wv.heap.size (Ext.trans XE (Ext.alloc wv (.cells [.bool false, .slice none 0 0, .slice none 0 0].toArray 32))) (Rt.new wv [.bool false, .slice none 0 0, .slice none 0 0] 32) (Below.size XE)) (by kernel_rfl) (by kernel_rfl) rfl rfl
      · skip
        go_simp
        refine hK.out _ _ (KP.out _ (Ext.trans XE (Ext.alloc wv (.cells [.bool false, .slice none 0 0, .slice none 0 0].toArray 32)))) (fun _ => ?_)
        clear hK K
        try simp only [Act.put, List.getElem_toArray, List.getElem_cons_succ, List.getElem_cons_zero, List.setIfInBounds_toArray, List.set_cons_zero, List.set_cons_succ]
        exact wpAnyH_to (L0_9 _ wv.heap.size (Ext.trans XE (Ext.alloc wv (.cells [.bool false, .slice none 0 0, .slice none 0 0].toArray 32))) (Rt.new wv [.bool false, .slice none 0 0, .slice none 0 0] 32) (Below.size XE)) (by kernel_rfl) (by kernel_rfl) rfl rfl
    have hO1 := hO.out
    have hQ1 := hQ.out
    subst hO1
    subst hQ1
    have hS1 := hSS.out
    subst hS1
    refine wp_region_held_drew (S := fun w' => (w'.cell? ⟨w.heap.size, 0, none⟩ = some (.bool (decide (r.num < 0))) ∧ w'.cell? ⟨w.heap.size, 1, none⟩ = some (x1) ∧ w'.cell? ⟨w.heap.size, 2, none⟩ = some (x2)) ∧ (w'.cell? ⟨w.heap.size + 1, 0, none⟩ = some (y0) ∧ w'.cell? ⟨w.heap.size + 1, 1, none⟩ = some (y1) ∧ w'.cell? ⟨w.heap.size + 1, 2, none⟩ = some (y2) ∧ w'.cell? ⟨w.heap.size + 1, 3, none⟩ = some (y3) ∧ w'.cell? ⟨w.heap.size + 1, 4, none⟩ = some (y4) ∧ w'.cell? ⟨w.heap.size + 1, 5, none⟩ = some (y5))) (by kernel_rfl) (⟨(C1.out.ext (drew_ext w1)).c3, (C2.out.ext (drew_ext w1)).c6⟩) (fun hHeld => ?_)
    refine wpAnyH_take (i := 0) (v := ?_) rfl (by kernel_rfl) (by kernel_rfl) (by kernel_rfl) (fun _ _ _ h => h) (Or.inl ⟨by rfl, fun w0 hSw => ?_⟩) hHeld ?_
    rotate_left
    · (try dsimp only at hSw)
      go_simp
      try with_reducible rfl
    simp only [Act.put, List.getElem_toArray, List.getElem_cons_succ, List.getElem_cons_zero, List.setIfInBounds_toArray, List.set_cons_zero, List.set_cons_succ]
    refine wpAnyH_take (i := 1) (v := ?_) rfl (by kernel_rfl) (by kernel_rfl) (by kernel_rfl) (fun _ _ _ h => h) (Or.inl ⟨by rfl, fun w0 hSw => ?_⟩) hHeld ?_
    rotate_left
    · (try dsimp only at hSw)
      go_simp
      try with_reducible rfl
    simp only [Act.put, List.getElem_toArray, List.getElem_cons_succ, List.getElem_cons_zero, List.setIfInBounds_toArray, List.set_cons_zero, List.set_cons_succ]
    refine wpAnyH_take (i := 2) (v := ?_) rfl (by kernel_rfl) (by kernel_rfl) (by kernel_rfl) (fun _ _ _ h => h) (Or.inl ⟨by rfl, fun w0 hSw => ?_⟩) hHeld ?_
    rotate_left
    · (try dsimp only at hSw)
      go_simp
      try with_reducible rfl
    simp only [Act.put, List.getElem_toArray, List.getElem_cons_succ, List.getElem_cons_zero, List.setIfInBounds_toArray, List.set_cons_zero, List.set_cons_succ]
    refine wpAnyH_take (i := 4) (v := ?_) rfl (by kernel_rfl) (by kernel_rfl) (by kernel_rfl) (fun _ _ _ h => h) (Or.inl ⟨by rfl, fun w0 hSw => ?_⟩) hHeld ?_
    rotate_left
    · (try dsimp only at hSw)
      go_simp
      try with_reducible rfl
    simp only [Act.put, List.getElem_toArray, List.getElem_cons_succ, List.getElem_cons_zero, List.setIfInBounds_toArray, List.set_cons_zero, List.set_cons_succ]
    refine wpAnyH_take (i := 5) (v := ?_) rfl (by kernel_rfl) (by kernel_rfl) (by kernel_rfl) (fun _ _ _ h => h) (Or.inl ⟨by rfl, fun w0 hSw => ?_⟩) hHeld ?_
    rotate_left
    · (try dsimp only at hSw)
      go_simp
      try with_reducible rfl
    simp only [Act.put, List.getElem_toArray, List.getElem_cons_succ, List.getElem_cons_zero, List.setIfInBounds_toArray, List.set_cons_zero, List.set_cons_succ]
    refine wpAnyH_take (i := 6) (v := ?_) rfl (by kernel_rfl) (by kernel_rfl) (by kernel_rfl) (fun _ _ _ h => h) (Or.inl ⟨by rfl, fun w0 hSw => ?_⟩) hHeld ?_
    rotate_left
    · (try dsimp only at hSw)
      go_simp
      try with_reducible rfl
    simp only [Act.put, List.getElem_toArray, List.getElem_cons_succ, List.getElem_cons_zero, List.setIfInBounds_toArray, List.set_cons_zero, List.set_cons_succ]
    exact wpAnyH_to (L0_ w1.drew (drew_ext w1)) (by kernel_rfl) (by kernel_rfl) rfl rfl
  case rest =>
    obtain ⟨B, C, n, d, n', d', rfl, rfl, hB, hC, hT⟩ := hcut
    generalize wc = w2 at *
    obtain ⟨b2, k1, k2, ⟨n1, d1, he1, on, od⟩, ⟨n2, d2, he2, om, oc⟩⟩ := hT.out
    obtain ⟨rfl, rfl⟩ : n = n1 ∧ d = d1 := by simpa using he1
    obtain ⟨rfl, rfl⟩ : n' = n2 ∧ d' = d2 := by simpa using he2
    obtain ⟨an, cn, rfl, -, -, -, -⟩ := on.rd.1.shape
    obtain ⟨ad, cd, rfl, -, -, -, -⟩ := od.rd.1.shape
    obtain ⟨am, cm, rfl, -, -, -, -⟩ := om.rd.1.shape
    obtain ⟨ac, cc, rfl, -, -, -, -⟩ := oc.rd.1.shape
    have ON := Lib.hid on
    have OD := Lib.hid od
    have OM := Lib.hid om
    have OC := Lib.hid oc
    have K1 := Lib.hid k1
    have K2 := Lib.hid k2
    have QX : Hid (RdQ w2 (.agg #[.bool (decide (x.num < 0)), .slice an (limbs x.num.natAbs).length cn, .slice ad (dens x.den).length cd]) x) := ⟨_, _, rfl, on.rd, od.rd⟩
    have QY : Hid (RdQ w2 (.agg #[.bool (decide (y.num < 0)), .slice am (limbs y.num.natAbs).length cm, .slice ac (dens y.den).length cc]) y) := ⟨_, _, rfl, om.rd, oc.rd⟩
    have HMN : Hid (∀ {w va vb}, RdQ w va x → RdQ w vb y → Calls Try.prog 122 #[va, vb] w (Gives w fun v' _ => v' = if (x - y).num.sign ≤ 0 then va else vb)) := fun h1 h2 => rmin_val h1 h2 SX.out SY.out
    have HMX : Hid (∀ {w va vb}, RdQ w va x → RdQ w vb y → Calls Try.prog 123 #[va, vb] w (Gives w fun v' _ => v' = if 0 ≤ (x - y).num.sign then va else vb)) := fun h1 h2 => rmax_val h1 h2 SX.out SY.out
    unfold mn mx at hR
    clear hT he1 he2 on od om oc k1 k2 C1 C2
    go_upto_region 2 with (fail)
    by_cases h1 : (x - y).num.sign ≤ 0
    · rw [if_pos h1] at hR
      by_cases h2 : 0 ≤ (x - y).num.sign
      · rw [if_pos h2] at hR
        have HMN2 : Hid (∀ {w va vb}, RdQ w va x → RdQ w vb y → Calls Try.prog 122 #[va, vb] w (Gives w fun v' _ => v' = va)) := fun k1 k2 => by have := HMN.out k1 k2; rw [if_pos h1] at this; exact this
        have HMX2 : Hid (∀ {w va vb}, RdQ w va x → RdQ w vb y → Calls Try.prog 123 #[va, vb] w (Gives w fun v' _ => v' = va)) := fun k1 k2 => by have := HMX.out k1 k2; rw [if_pos h2] at this; exact this
        clear HMN HMX h1 h2
        have b3 := drew_ext w2
        have XE := b3
        refine wp_region_noPanic ?_
        refine wp_region_held_drew (S := fun w' => (w'.cell? ⟨B, 0, none⟩ = some (.bool (decide (x.num < 0))) ∧ w'.cell? ⟨B, 1, none⟩ = some (.slice an (limbs x.num.natAbs).length cn) ∧ w'.cell? ⟨B, 2, none⟩ = some (.slice ad (dens x.den).length cd)) ∧ (w'.cell? ⟨C, 0, none⟩ = some (.bool (decide (y.num < 0))) ∧ w'.cell? ⟨C, 1, none⟩ = some (.slice am (limbs y.num.natAbs).length cm) ∧ w'.cell? ⟨C, 2, none⟩ = some (.slice ac (dens y.den).length cc))) (by kernel_rfl) (⟨K1.out.ext XE, K2.out.ext XE⟩) (fun hHeld => ?_)
        refine wpAnyH_take (i := 0) (v := ?_) rfl (by kernel_rfl) (by kernel_rfl) (by kernel_rfl) (fun _ _ _ h => h) (Or.inl ⟨by rfl, fun w0 hSw => ?_⟩) hHeld ?_
        rotate_left
        · (try dsimp only at hSw)
          go_simp
          try with_reducible rfl
        simp only [Act.put, List.getElem_toArray, List.getElem_cons_succ, List.getElem_cons_zero, List.setIfInBounds_toArray, List.set_cons_zero, List.set_cons_succ]
        refine wpAnyH_take (i := 1) (v := ?_) rfl (by kernel_rfl) (by kernel_rfl) (by kernel_rfl) (fun _ _ _ h => h) (Or.inl ⟨by rfl, fun w0 hSw => ?_⟩) hHeld ?_
        rotate_left
        · (try dsimp only at hSw)
          go_simp
          try with_reducible rfl
        simp only [Act.put, List.getElem_toArray, List.getElem_cons_succ, List.getElem_cons_zero, List.setIfInBounds_toArray, List.set_cons_zero, List.set_cons_succ]
        refine wpAnyH_take (i := 3) (v := ?_) rfl (by kernel_rfl) (by kernel_rfl) (by kernel_rfl) (fun _ _ _ h => h) (Or.inl ⟨by rfl, fun w0 hSw => ?_⟩) hHeld ?_
        rotate_left
        · (try dsimp only at hSw)
          go_simp
          try with_reducible rfl
        simp only [Act.put, List.getElem_toArray, List.getElem_cons_succ, List.getElem_cons_zero, List.setIfInBounds_toArray, List.set_cons_zero, List.set_cons_succ]
        refine wpAnyH_take (i := 4) (v := ?_) rfl (by kernel_rfl) (by kernel_rfl) (by kernel_rfl) (fun _ _ _ h => h) (Or.inl ⟨by rfl, fun w0 hSw => ?_⟩) hHeld ?_
        rotate_left
        · (try dsimp only at hSw)
          go_simp
          try with_reducible rfl
        simp only [Act.put, List.getElem_toArray, List.getElem_cons_succ, List.getElem_cons_zero, List.setIfInBounds_toArray, List.set_cons_zero, List.set_cons_succ]
        refine wpAnyH_ready (rs := [2]) (by kernel_rfl) (by simp) ?_
        refine AllReadyH.cons (o := _) rfl (fun K hK => ?_) AllReadyH.nil
        go_simp
        go_at_call 122; refine (HMN2.out (QX.out.ext b3) (QY.out.ext b3)).mono ?_; rintro e w4 ⟨_, rfl, b4, rfl⟩; (first | have XE := Ext.trans XE b4 | have XE := Ext.trans (Ext.trans XE (Ext.alloc _ _)) b4)
        go_wp2_with fail
        refine hK.out _ _ (⟨K1.out.ext XE, K2.out.ext XE⟩) (fun hHeld => ?_)
        clear hK K
        try simp only [Act.put, List.getElem_toArray, List.getElem_cons_succ, List.getElem_cons_zero, List.setIfInBounds_toArray, List.set_cons_zero, List.set_cons_succ]
        refine wpAnyH_ready (rs := [5]) (by kernel_rfl) (by simp) ?_
        refine AllReadyH.cons (o := _) rfl (fun K hK => ?_) AllReadyH.nil
        go_simp
        go_at_call 123; refine (HMX2.out (QX.out.ext (Ext.trans b3 b4)) (QY.out.ext (Ext.trans b3 b4))).mono ?_; rintro e w5 ⟨_, rfl, b5, rfl⟩; (first | have XE := Ext.trans XE b5 | have XE := Ext.trans (Ext.trans XE (Ext.alloc _ _)) b5); obtain ⟨_, _, _, _, _, _, j0, j1, j2, j3, j4, j5, g0, g1, g2, g3, g4, g5⟩ := (RR.out.ext (Ext.trans b2 (Ext.trans b3 (Ext.trans b4 b5)))).c6
        go_wp2_with fail
        refine hK.out _ _ (⟨K1.out.ext XE, K2.out.ext XE⟩) (fun hHeld => ?_)
        clear hK K
        try simp only [Act.put, List.getElem_toArray, List.getElem_cons_succ, List.getElem_cons_zero, List.setIfInBounds_toArray, List.set_cons_zero, List.set_cons_succ]
        refine wpAnyH_take (i := 6) (v := ?_) rfl (by kernel_rfl) (by kernel_rfl) (by kernel_rfl) (fun _ _ _ h => h) (Or.inl ⟨by rfl, fun w0 hSw => ?_⟩) hHeld ?_
        rotate_left
        · (try dsimp only at hSw)
          go_simp
          try with_reducible rfl
        simp only [Act.put, List.getElem_toArray, List.getElem_cons_succ, List.getElem_cons_zero, List.setIfInBounds_toArray, List.set_cons_zero, List.set_cons_succ]
        refine wpAnyH_ready (rs := [7]) (by kernel_rfl) (by simp) ?_
        refine AllReadyH.cons (o := _) rfl (fun K hK => ?_) AllReadyH.nil
        go_simp
        refine hK.out _ _ (⟨(K1.out.ext XE).put6 (Ne.symm hB.out) _ _ _ _ _ _, (K2.out.ext XE).put6 (Ne.symm hC.out) _ _ _ _ _ _⟩) (fun hHeld => ?_)
        clear hK K
        try simp only [Act.put, List.getElem_toArray, List.getElem_cons_succ, List.getElem_cons_zero, List.setIfInBounds_toArray, List.set_cons_zero, List.set_cons_succ]
        refine wpAnyH_done (by kernel_rfl) ?_ _
        refine NoPanic.normal ?_
        go_wp2_with fail
        refine bodyPost_ret (v := .agg #[.bool (decide (x.num < 0)), .slice an (limbs x.num.natAbs).length cn, .slice ad (dens x.den).length cd, .bool (decide (x.num < 0)), .slice an (limbs x.num.natAbs).length cn, .slice ad (dens x.den).length cd]) (by simp [results, Try.results81, go_sem, j0, j1, j2, j3, j4, j5]) rfl ?_
        exact hR.out _ _ (Gives.mk (put6_below (Ext.trans b1 (Ext.trans b2 (Ext.trans b3 (Ext.trans b4 b5)))) (by omega) _ _ _ _ _ _) ⟨_, _, _, _, rfl, (ON.out.put6 (Ext.trans b3 (Ext.trans b4 b5)) (.inl (by have := SZ.out; omega)) _ _ _ _ _ _).mono (by have := SZ.out; omega), (OD.out.put6 (Ext.trans b3 (Ext.trans b4 b5)) (.inl (by have := SZ.out; omega)) _ _ _ _ _ _).mono (by have := SZ.out; omega), (ON.out.put6 (Ext.trans b3 (Ext.trans b4 b5)) (.inl (by have := SZ.out; omega)) _ _ _ _ _ _).mono (by have := SZ.out; omega), (OD.out.put6 (Ext.trans b3 (Ext.trans b4 b5)) (.inl (by have := SZ.out; omega)) _ _ _ _ _ _).mono (by have := SZ.out; omega)⟩)
      · rw [if_neg h2] at hR
        have HMN2 : Hid (∀ {w va vb}, RdQ w va x → RdQ w vb y → Calls Try.prog 122 #[va, vb] w (Gives w fun v' _ => v' = va)) := fun k1 k2 => by have := HMN.out k1 k2; rw [if_pos h1] at this; exact this
        have HMX2 : Hid (∀ {w va vb}, RdQ w va x → RdQ w vb y → Calls Try.prog 123 #[va, vb] w (Gives w fun v' _ => v' = vb)) := fun k1 k2 => by have := HMX.out k1 k2; rw [if_neg h2] at this; exact this
        clear HMN HMX h1 h2
        have b3 := drew_ext w2
        have XE := b3
        refine wp_region_noPanic ?_
        refine wp_region_held_drew (S := fun w' => (w'.cell? ⟨B, 0, none⟩ = some (.bool (decide (x.num < 0))) ∧ w'.cell? ⟨B, 1, none⟩ = some (.slice an (limbs x.num.natAbs).length cn) ∧ w'.cell? ⟨B, 2, none⟩ = some (.slice ad (dens x.den).length cd)) ∧ (w'.cell? ⟨C, 0, none⟩ = some (.bool (decide (y.num < 0))) ∧ w'.cell? ⟨C, 1, none⟩ = some (.slice am (limbs y.num.natAbs).length cm) ∧ w'.cell? ⟨C, 2, none⟩ = some (.slice ac (dens y.den).length cc))) (by kernel_rfl) (⟨K1.out.ext XE, K2.out.ext XE⟩) (fun hHeld => ?_)
        refine wpAnyH_take (i := 0) (v := ?_) rfl (by kernel_rfl) (by kernel_rfl) (by kernel_rfl) (fun _ _ _ h => h) (Or.inl ⟨by rfl, fun w0 hSw => ?_⟩) hHeld ?_
        rotate_left
        · (try dsimp only at hSw)
          go_simp
          try with_reducible rfl
        simp only [Act.put, List.getElem_toArray, List.getElem_cons_succ, List.getElem_cons_zero, List.setIfInBounds_toArray, List.set_cons_zero, List.set_cons_succ]
        refine wpAnyH_take (i := 1) (v := ?_) rfl (by kernel_rfl) (by kernel_rfl) (by kernel_rfl) (fun _ _ _ h => h) (Or.inl ⟨by rfl, fun w0 hSw => ?_⟩) hHeld ?_
        rotate_left
        · (try dsimp only at hSw)
          go_simp
          try with_reducible rfl
        simp only [Act.put, List.getElem_toArray, List.getElem_cons_succ, List.getElem_cons_zero, List.setIfInBounds_toArray, List.set_cons_zero, List.set_cons_succ]
        refine wpAnyH_take (i := 3) (v := ?_) rfl (by kernel_rfl) (by kernel_rfl) (by kernel_rfl) (fun _ _ _ h => h) (Or.inl ⟨by rfl, fun w0 hSw => ?_⟩) hHeld ?_
        rotate_left
        · (try dsimp only at hSw)
          go_simp
          try with_reducible rfl
        simp only [Act.put, List.getElem_toArray, List.getElem_cons_succ, List.getElem_cons_zero, List.setIfInBounds_toArray, List.set_cons_zero, List.set_cons_succ]
        refine wpAnyH_take (i := 4) (v := ?_) rfl (by kernel_rfl) (by kernel_rfl) (by kernel_rfl) (fun _ _ _ h => h) (Or.inl ⟨by rfl, fun w0 hSw => ?_⟩) hHeld ?_
        rotate_left
        · (try dsimp only at hSw)
          go_simp
          try with_reducible rfl
        simp only [Act.put, List.getElem_toArray, List.getElem_cons_succ, List.getElem_cons_zero, List.setIfInBounds_toArray, List.set_cons_zero, List.set_cons_succ]
        refine wpAnyH_ready (rs := [2]) (by kernel_rfl) (by simp) ?_
        refine AllReadyH.cons (o := _) rfl (fun K hK => ?_) AllReadyH.nil
        go_simp
        go_at_call 122; refine (HMN2.out (QX.out.ext b3) (QY.out.ext b3)).mono ?_; rintro e w4 ⟨_, rfl, b4, rfl⟩; (first | have XE := Ext.trans XE b4 | have XE := Ext.trans (Ext.trans XE (Ext.alloc _ _)) b4)
        go_wp2_with fail
        refine hK.out _ _ (⟨K1.out.ext XE, K2.out.ext XE⟩) (fun hHeld => ?_)
        clear hK K
        try simp only [Act.put, List.getElem_toArray, List.getElem_cons_succ, List.getElem_cons_zero, List.setIfInBounds_toArray, List.set_cons_zero, List.set_cons_succ]
        refine wpAnyH_ready (rs := [5]) (by kernel_rfl) (by simp) ?_
        refine AllReadyH.cons (o := _) rfl (fun K hK => ?_) AllReadyH.nil
        go_simp
        go_at_call 123; refine (HMX2.out (QX.out.ext (Ext.trans b3 b4)) (QY.out.ext (Ext.trans b3 b4))).mono ?_; rintro e w5 ⟨_, rfl, b5, rfl⟩; (first | have XE := Ext.trans XE b5 | have XE := Ext.trans (Ext.trans XE (Ext.alloc _ _)) b5); obtain ⟨_, _, _, _, _, _, j0, j1, j2, j3, j4, j5, g0, g1, g2, g3, g4, g5⟩ := (RR.out.ext (Ext.trans b2 (Ext.trans b3 (Ext.trans b4 b5)))).c6
        go_wp2_with fail
        refine hK.out _ _ (⟨K1.out.ext XE, K2.out.ext XE⟩) (fun hHeld => ?_)
        clear hK K
        try simp only [Act.put, List.getElem_toArray, List.getElem_cons_succ, List.getElem_cons_zero, List.setIfInBounds_toArray, List.set_cons_zero, List.set_cons_succ]
        refine wpAnyH_take (i := 6) (v := ?_) rfl (by kernel_rfl) (by kernel_rfl) (by kernel_rfl) (fun _ _ _ h => h) (Or.inl ⟨by rfl, fun w0 hSw => ?_⟩) hHeld ?_
        rotate_left
        · (try dsimp only at hSw)
          go_simp
          try with_reducible rfl
        simp only [Act.put, List.getElem_toArray, List.getElem_cons_succ, List.getElem_cons_zero, List.setIfInBounds_toArray, List.set_cons_zero, List.set_cons_succ]
        refine wpAnyH_ready (rs := [7]) (by kernel_rfl) (by simp) ?_
        refine AllReadyH.cons (o := _) rfl (fun K hK => ?_) AllReadyH.nil
        go_simp
        refine hK.out _ _ (⟨(K1.out.ext XE).put6 (Ne.symm hB.out) _ _ _ _ _ _, (K2.out.ext XE).put6 (Ne.symm hC.out) _ _ _ _ _ _⟩) (fun hHeld => ?_)
        clear hK K
        try simp only [Act.put, List.getElem_toArray, List.getElem_cons_succ, List.getElem_cons_zero, List.setIfInBounds_toArray, List.set_cons_zero, List.set_cons_succ]
        refine wpAnyH_done (by kernel_rfl) ?_ _
        refine NoPanic.normal ?_
        go_wp2_with fail
        refine bodyPost_ret (v := .agg #[.bool (decide (x.num < 0)), .slice an (limbs x.num.natAbs).length cn, .slice ad (dens x.den).length cd, .bool (decide (y.num < 0)), .slice am (limbs y.num.natAbs).length cm, .slice ac (dens y.den).length cc]) (by simp [results, Try.results81, go_sem, j0, j1, j2, j3, j4, j5]) rfl ?_
        exact hR.out _ _ (Gives.mk (put6_below (Ext.trans b1 (Ext.trans b2 (Ext.trans b3 (Ext.trans b4 b5)))) (by omega) _ _ _ _ _ _) ⟨_, _, _, _, rfl, (ON.out.put6 (Ext.trans b3 (Ext.trans b4 b5)) (.inl (by have := SZ.out; omega)) _ _ _ _ _ _).mono (by have := SZ.out; omega), (OD.out.put6 (Ext.trans b3 (Ext.trans b4 b5)) (.inl (by have := SZ.out; omega)) _ _ _ _ _ _).mono (by have := SZ.out; omega), (OM.out.put6 (Ext.trans b3 (Ext.trans b4 b5)) (.inl (by have := SZ.out; omega)) _ _ _ _ _ _).mono (by have := SZ.out; omega), (OC.out.put6 (Ext.trans b3 (Ext.trans b4 b5)) (.inl (by have := SZ.out; omega)) _ _ _ _ _ _).mono (by have := SZ.out; omega)⟩)
    · rw [if_neg h1, if_pos (by omega)] at hR
      have HMN2 : Hid (∀ {w va vb}, RdQ w va x → RdQ w vb y → Calls Try.prog 122 #[va, vb] w (Gives w fun v' _ => v' = vb)) := fun k1 k2 => by have := HMN.out k1 k2; rw [if_neg h1] at this; exact this
      have HMX2 : Hid (∀ {w va vb}, RdQ w va x → RdQ w vb y → Calls Try.prog 123 #[va, vb] w (Gives w fun v' _ => v' = va)) := fun k1 k2 => by have := HMX.out k1 k2; rw [if_pos (by omega)] at this; exact this
      clear HMN HMX h1
      have b3 := drew_ext w2
      have XE := b3
      refine wp_region_noPanic ?_
      refine wp_region_held_drew (S := fun w' => (w'.cell? ⟨B, 0, none⟩ = some (.bool (decide (x.num < 0))) ∧ w'.cell? ⟨B, 1, none⟩ = some (.slice an (limbs x.num.natAbs).length cn) ∧ w'.cell? ⟨B, 2, none⟩ = some (.slice ad (dens x.den).length cd)) ∧ (w'.cell? ⟨C, 0, none⟩ = some (.bool (decide (y.num < 0))) ∧ w'.cell? ⟨C, 1, none⟩ = some (.slice am (limbs y.num.natAbs).length cm) ∧ w'.cell? ⟨C, 2, none⟩ = some (.slice ac (dens y.den).length cc))) (by kernel_rfl) (⟨K1.out.ext XE, K2.out.ext XE⟩) (fun hHeld => ?_)
      refine wpAnyH_take (i := 0) (v := ?_) rfl (by kernel_rfl) (by kernel_rfl) (by kernel_rfl) (fun _ _ _ h => h) (Or.inl ⟨by rfl, fun w0 hSw => ?_⟩) hHeld ?_
      rotate_left
      · (try dsimp only at hSw)
        go_simp
        try with_reducible rfl
      simp only [Act.put, List.getElem_toArray, List.getElem_cons_succ, List.getElem_cons_zero, List.setIfInBounds_toArray, List.set_cons_zero, List.set_cons_succ]
      refine wpAnyH_take (i := 1) (v := ?_) rfl (by kernel_rfl) (by kernel_rfl) (by kernel_rfl) (fun _ _ _ h => h) (Or.inl ⟨by rfl, fun w0 hSw => ?_⟩) hHeld ?_
      rotate_left
      · (try dsimp only at hSw)
        go_simp
        try with_reducible rfl
      simp only [Act.put, List.getElem_toArray, List.getElem_cons_succ, List.getElem_cons_zero, List.setIfInBounds_toArray, List.set_cons_zero, List.set_cons_succ]
      refine wpAnyH_take (i := 3) (v := ?_) rfl (by kernel_rfl) (by kernel_rfl) (by kernel_rfl) (fun _ _ _ h => h) (Or.inl ⟨by rfl, fun w0 hSw => ?_⟩) hHeld ?_
      rotate_left
      · (try dsimp only at hSw)
        go_simp
        try with_reducible rfl
      simp only [Act.put, List.getElem_toArray, List.getElem_cons_succ, List.getElem_cons_zero, List.setIfInBounds_toArray, List.set_cons_zero, List.set_cons_succ]
      refine wpAnyH_take (i := 4) (v := ?_) rfl (by kernel_rfl) (by kernel_rfl) (by kernel_rfl) (fun _ _ _ h => h) (Or.inl ⟨by rfl, fun w0 hSw => ?_⟩) hHeld ?_
      rotate_left
      · (try dsimp only at hSw)
        go_simp
        try with_reducible rfl
      simp only [Act.put, List.getElem_toArray, List.getElem_cons_succ, List.getElem_cons_zero, List.setIfInBounds_toArray, List.set_cons_zero, List.set_cons_succ]
      refine wpAnyH_ready (rs := [2]) (by kernel_rfl) (by simp) ?_
      refine AllReadyH.cons (o := _) rfl (fun K hK => ?_) AllReadyH.nil
      go_simp
      go_at_call 122; refine (HMN2.out (QX.out.ext b3) (QY.out.ext b3)).mono ?_; rintro e w4 ⟨_, rfl, b4, rfl⟩; (first | have XE := Ext.trans XE b4 | have XE := Ext.trans (Ext.trans XE (Ext.alloc _ _)) b4)
      go_wp2_with fail
      refine hK.out _ _ (⟨K1.out.ext XE, K2.out.ext XE⟩) (fun hHeld => ?_)
      clear hK K
      try simp only [Act.put, List.getElem_toArray, List.getElem_cons_succ, List.getElem_cons_zero, List.setIfInBounds_toArray, List.set_cons_zero, List.set_cons_succ]
      refine wpAnyH_ready (rs := [5]) (by kernel_rfl) (by simp) ?_
      refine AllReadyH.cons (o := _) rfl (fun K hK => ?_) AllReadyH.nil
      go_simp
      go_at_call 123; refine (HMX2.out (QX.out.ext (Ext.trans b3 b4)) (QY.out.ext (Ext.trans b3 b4))).mono ?_; rintro e w5 ⟨_, rfl, b5, rfl⟩; (first | have XE := Ext.trans XE b5 | have XE := Ext.trans (Ext.trans XE (Ext.alloc _ _)) b5); obtain ⟨_, _, _, _, _, _, j0, j1, j2, j3, j4, j5, g0, g1, g2, g3, g4, g5⟩ := (RR.out.ext (Ext.trans b2 (Ext.trans b3 (Ext.trans b4 b5)))).c6
      go_wp2_with fail
      refine hK.out _ _ (⟨K1.out.ext XE, K2.out.ext XE⟩) (fun hHeld => ?_)
      clear hK K
      try simp only [Act.put, List.getElem_toArray, List.getElem_cons_succ, List.getElem_cons_zero, List.setIfInBounds_toArray, List.set_cons_zero, List.set_cons_succ]
      refine wpAnyH_take (i := 6) (v := ?_) rfl (by kernel_rfl) (by kernel_rfl) (by kernel_rfl) (fun _ _ _ h => h) (Or.inl ⟨by rfl, fun w0 hSw => ?_⟩) hHeld ?_
      rotate_left
      · (try dsimp only at hSw)
        go_simp
        try with_reducible rfl
      simp only [Act.put, List.getElem_toArray, List.getElem_cons_succ, List.getElem_cons_zero, List.setIfInBounds_toArray, List.set_cons_zero, List.set_cons_succ]
      refine wpAnyH_ready (rs := [7]) (by kernel_rfl) (by simp) ?_
      refine AllReadyH.cons (o := _) rfl (fun K hK => ?_) AllReadyH.nil
      go_simp
      refine hK.out _ _ (⟨(K1.out.ext XE).put6 (Ne.symm hB.out) _ _ _ _ _ _, (K2.out.ext XE).put6 (Ne.symm hC.out) _ _ _ _ _ _⟩) (fun hHeld => ?_)
      clear hK K
      try simp only [Act.put, List.getElem_toArray, List.getElem_cons_succ, List.getElem_cons_zero, List.setIfInBounds_toArray, List.set_cons_zero, List.set_cons_succ]
      refine wpAnyH_done (by kernel_rfl) ?_ _
      refine NoPanic.normal ?_
      go_wp2_with fail
      refine bodyPost_ret (v := .agg #[.bool (decide (y.num < 0)), .slice am (limbs y.num.natAbs).length cm, .slice ac (dens y.den).length cc, .bool (decide (x.num < 0)), .slice an (limbs x.num.natAbs).length cn, .slice ad (dens x.den).length cd]) (by simp [results, Try.results81, go_sem, j0, j1, j2, j3, j4, j5]) rfl ?_
      exact hR.out _ _ (Gives.mk (put6_below (Ext.trans b1 (Ext.trans b2 (Ext.trans b3 (Ext.trans b4 b5)))) (by omega) _ _ _ _ _ _) ⟨_, _, _, _, rfl, (OM.out.put6 (Ext.trans b3 (Ext.trans b4 b5)) (.inl (by have := SZ.out; omega)) _ _ _ _ _ _).mono (by have := SZ.out; omega), (OC.out.put6 (Ext.trans b3 (Ext.trans b4 b5)) (.inl (by have := SZ.out; omega)) _ _ _ _ _ _).mono (by have := SZ.out; omega), (ON.out.put6 (Ext.trans b3 (Ext.trans b4 b5)) (.inl (by have := SZ.out; omega)) _ _ _ _ _ _).mono (by have := SZ.out; omega), (OD.out.put6 (Ext.trans b3 (Ext.trans b4 b5)) (.inl (by have := SZ.out; omega)) _ _ _ _ _ _).mono (by have := SZ.out; omega)⟩)
end Go.Proofs.Ytnbbhpihlcglgaa
