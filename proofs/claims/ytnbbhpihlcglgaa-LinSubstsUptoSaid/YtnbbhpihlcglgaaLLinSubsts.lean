/- LinSubsts: an expression put in a variable's place gives the exact sum, in form. Conditions: the arguments hold together at most 1048576 values (the second form, Upto). -/
import Derived.Test.YtnbbhpihlcglgaaFrameE
import Derived.Test.YtnbbhpihlcglgaaLinPlain
import Derived.Test.YtnbbhpihlcglgaaPLinSubst
import Derived.Test.YtnbbhpihlcglgaaPAwake08
import Derived.Test.YtnbbhpihlcglgaaRef5All
namespace Go.Proofs.Ytnbbhpihlcglgaa.linSubsts
open Go.ChangeShapes Go.WideShapes Go.ChangeAt Go.RowKit Go.Att

set_option maxHeartbeats 100000000 in
set_option maxRecDepth 100000 in
set_option linter.unusedSimpArgs false in
theorem walk {w : World} {v0 v1 : Value} {l0 l1 : List (Int × NN)} {n0 n1 : NN} {x : Int} (hv0 : RdNE w v0 l0 n0) (hb0 : ∀ p ∈ l0, bN p.2 ≤ 1048576) (hn0 : bN n0 ≤ 1048576) (_hl0 : l0.length ≤ 1048576)
    (hv1 : RdNE w v1 l1 n1) (hb1 : ∀ p ∈ l1, bN p.2 ≤ 1048576) (hn1 : bN n1 ≤ 1048576) (_hl1 : l1.length ≤ 1048576) (_hx : -9223372036854775808 ≤ x ∧ x ≤ 9223372036854775807) :
    Calls Try.prog 8 #[v0, v1, .int .i64 x] w (Gives w fun v' _ => v' = .bool true) := by
  refine via fun R hR => ?_
  unfold bN at hb0 hb1 hn0 hn1
  have ZA := Lib.hid (tL_sm hv0)
  have ZB := Lib.hid (tL_sm hv1)
  have HEA : Hid (∀ (w : World) (v : Value), RdNE w v l0 n0 → Calls Try.prog 31 #[v] w (Gives w fun v' w' => OwnX 0 w' v' (tL l0) (qN n0))) := fun w v h => expr8_sm h (fun t ht => by have := hb0 t ht; exact ⟨by omega, by omega⟩) ⟨by omega, by omega⟩
  have HEB : Hid (∀ (w : World) (v : Value), RdNE w v l1 n1 → Calls Try.prog 31 #[v] w (Gives w fun v' w' => OwnX 0 w' v' (tL l1) (qN n1))) := fun w v h => expr8_sm h (fun t ht => by have := hb1 t ht; exact ⟨by omega, by omega⟩) ⟨by omega, by omega⟩
  have HV0 := Lib.hid hv0
  have HV1 := Lib.hid hv1
  obtain ⟨sl0, t1, t2, rfl, hr0, -⟩ := hv0
  obtain ⟨aa, ka, rfl, -, -⟩ := hr0.shape
  obtain ⟨sl1, t4, t5, rfl, hr1, -⟩ := hv1
  obtain ⟨ab, kb, rfl, -, -⟩ := hr1.shape
  clear hr0 hr1 hb0 hb1 hn0 hn1
  obtain ⟨g0, hg0⟩ : ∃ g0, n0.1 = g0 := ⟨_, rfl⟩
  obtain ⟨g1, hg1⟩ : ∃ g1, n1.1 = g1 := ⟨_, rfl⟩
  obtain ⟨m0, hm0⟩ : ∃ m0, l0.length = m0 := ⟨_, rfl⟩
  obtain ⟨m1, hm1⟩ : ∃ m1, l1.length = m1 := ⟨_, rfl⟩
  rw [hg0, hm0] at HV0 ⊢
  rw [hg1, hm1] at HV1 ⊢
  clear hg0 hg1 hm0 hm1
  generalize tL l0 = la at *
  generalize tL l1 = lb at *
  generalize qN n0 = ca at *
  generalize qN n1 = cb at *
  have e1 : ((1 : Int) : Rat) = 1 := by decide +kernel
  have M1 : Hid (ca + cf la x * cb = ((1 : Int) : Rat) * ca + cf la x * cb ∧ ∀ u, cf (rst la x) u + cf la x * cf lb u = ((1 : Int) : Rat) * cf (rst la x) u + cf la x * cf lb u) := ⟨by rw [e1, Rat.one_mul], fun x => by rw [e1, Rat.one_mul]⟩
  clear e1
  have I1 : Hid (∀ w, Calls Try.prog 41 #[.int .i64 1] w (Gives w fun v' w' => OwnP 4 0 w' v' ((1 : Int) : Rat))) := fun w => (r5int_any (by omega)).mono fun _ _ ⟨v, e, b, o⟩ => ⟨v, e, b, o.mono (Nat.zero_le _)⟩
  have Z1 : Hid (Sz 380 ((1 : Int) : Rat)) := (Sz.int 1 (by omega)).le (by decide)
  have ZX : Hid (Sz 380 (cf la x)) := (ZA.out.cf x).le (by decide)
  have ZRS : Hid (Smx (rst la x) ca) := ⟨Nat.le_trans (rst_len la x) ZA.out.1, fun t ht => ZA.out.2.1 t (rst_mem ht), ZA.out.2.2⟩
  have HSUB : Hid (∀ w va vb, RdX w va la ca → RdX w vb lb cb → Calls Try.prog 45 #[va, .int .i64 x, vb] w (Gives w fun v' w' => Rep w' v' (fun u => cf (rst la x) u + cf la x * cf lb u) (ca + cf la x * cb))) := fun w va vb h1 h2 => rep_subst h1 h2 ZA.out ZB.out
  have HCO : Hid (∀ w v, RdY w v la ca → Calls Try.prog 35 #[v, .int .i64 x] w (Gives w fun v' w' => OwnP 4 0 w' v' (cf la x))) := fun w v h => r8coef_any (x := x) 380 h ZA.out.okx.2.1 (ZA.out.okx.2.2.1 x) ZA.out.okx.1 (by decide)
  generalize ((1 : Int) : Rat) = q1 at *
  generalize cf la x = q at *
  obtain ⟨w1, hw1, b1, c1, c2, -, -, -⟩ := bx2 w [.slice aa m0 ka, .bool g0, t1, t2] [.slice ab m1 kb, .bool g1, t4, t5] 60 60
  have C1 := Lib.hid c1
  have C2 := Lib.hid c2
  have HW := Lib.hid hw1
  have SZ1 : Hid (w.heap.size + 1 < w1.heap.size) := World.block_lt_of_cell? w1 _ c2.c4.1
  clear hw1 c1 c2
  go_enter Try.func8, Try.ntmps8
  go_upto_region 1 with (fail)
  rw [← HW.out]
  clear HW
  go_cut [7, 8] (fun s5 s6 wx => ∃ (B4 B5 : Nat) (x0 x1 x2 x3 y0 y1 y2 y3 : Value), s5 = .pointer (some ⟨B4, 0, none⟩) ∧ s6 = .pointer (some ⟨B5, 0, none⟩) ∧ Ext w1 wx ∧ Hid (Bx wx B4 [x0, x1, x2, x3]) ∧ Hid (Bx wx B5 [y0, y1, y2, y3]) ∧ Hid (OwnX 0 wx (.agg #[x0, x1, x2, x3]) la ca) ∧ Hid (OwnX 0 wx (.agg #[y0, y1, y2, y3]) lb cb))
  case first =>
    as_aux_lemma =>
      refine wp_region_noPanic ?_
      refine wp_region_held_drew (S := fun w' => (w'.cell? ⟨w.heap.size, 0, none⟩ = some (.slice aa m0 ka) ∧ w'.cell? ⟨w.heap.size, 1, none⟩ = some (.bool g0) ∧ w'.cell? ⟨w.heap.size, 2, none⟩ = some (t1) ∧ w'.cell? ⟨w.heap.size, 3, none⟩ = some (t2)) ∧ (w'.cell? ⟨w.heap.size + 1, 0, none⟩ = some (.slice ab m1 kb) ∧ w'.cell? ⟨w.heap.size + 1, 1, none⟩ = some (.bool g1) ∧ w'.cell? ⟨w.heap.size + 1, 2, none⟩ = some (t4) ∧ w'.cell? ⟨w.heap.size + 1, 3, none⟩ = some (t5))) (by kernel_rfl) (⟨(C1.out.ext (drew_ext w1)).c4, (C2.out.ext (drew_ext w1)).c4⟩) (fun hHeld => ?_)
      refine wpAnyH_take (i := 0) (v := ?_) rfl (by kernel_rfl) (by kernel_rfl) (by kernel_rfl) (fun _ _ _ h => h) (Or.inl ⟨by rfl, fun w0 hSw => ?_⟩) hHeld ?_
      rotate_left
      · (try dsimp only at hSw)
        go_simp
        try with_reducible rfl
      simp only [Act.put, List.getElem_toArray, List.getElem_cons_succ, List.getElem_cons_zero, List.setIfInBounds_toArray, List.set_cons_zero, List.set_cons_succ]
      refine wpAnyH_take (i := 2) (v := ?_) rfl (by kernel_rfl) (by kernel_rfl) (by kernel_rfl) (fun _ _ _ h => h) (Or.inl ⟨by rfl, fun w0 hSw => ?_⟩) hHeld ?_
      rotate_left
      · (try dsimp only at hSw)
        go_simp
        try with_reducible rfl
      simp only [Act.put, List.getElem_toArray, List.getElem_cons_succ, List.getElem_cons_zero, List.setIfInBounds_toArray, List.set_cons_zero, List.set_cons_succ]
      refine anyH_cap fun O Q9 AA hO hQ hA => ?_
      obtain ⟨SS, hSS⟩ : ∃ SS : World → Prop, Hid (SS = fun w' => (w'.cell? ⟨w.heap.size, 0, none⟩ = some (.slice aa m0 ka) ∧ w'.cell? ⟨w.heap.size, 1, none⟩ = some (.bool g0) ∧ w'.cell? ⟨w.heap.size, 2, none⟩ = some (t1) ∧ w'.cell? ⟨w.heap.size, 3, none⟩ = some (t2)) ∧ (w'.cell? ⟨w.heap.size + 1, 0, none⟩ = some (.slice ab m1 kb) ∧ w'.cell? ⟨w.heap.size + 1, 1, none⟩ = some (.bool g1) ∧ w'.cell? ⟨w.heap.size + 1, 2, none⟩ = some (t4) ∧ w'.cell? ⟨w.heap.size + 1, 3, none⟩ = some (t5))) := ⟨_, rfl⟩
      have KP : Hid (∀ wv, Ext w1 wv → SS wv) := fun wv XE => by rw [hSS.out]; exact ⟨(C1.out.ext XE).c4, (C2.out.ext XE).c4⟩
      have L2_4_5 : ∀ (wv : World) (v1 v3 : Value) (B4 B5 : Nat), Hid (Ext w1 wv) → Hid (OwnX 0 wv v1 la ca) → Hid (OwnX 0 wv v3 lb cb) → Hid (Rt wv B4 4 63) → Hid (w1.heap.size ≤ B4) → Hid (Rt wv B5 4 63) → Hid (w1.heap.size ≤ B5) → Hid (B4 ≠ B5) → wpAnyH Try.prog .any O Q9 SS 2 #[true, true, true, true, true, true, false, false] ((((AA.put (some 14) v1).put (some 16) v3).put (some 7) (.pointer (some ⟨B4, 0, none⟩))).put (some 8) (.pointer (some ⟨B5, 0, none⟩))) wv := by
        intro wv v1 v3 B4 B5 hX p1 p3 r4 s4 r5 s5 ne4_5
        have hO1 := hO.out
        have hQ1 := hQ.out
        have hA1 := hA.out
        subst hO1
        subst hQ1
        subst hA1
        have XE := hX.out
        have hS1 := hSS.out
        subst hS1
        have hHeld : (fun w' => (w'.cell? ⟨w.heap.size, 0, none⟩ = some (.slice aa m0 ka) ∧ w'.cell? ⟨w.heap.size, 1, none⟩ = some (.bool g0) ∧ w'.cell? ⟨w.heap.size, 2, none⟩ = some (t1) ∧ w'.cell? ⟨w.heap.size, 3, none⟩ = some (t2)) ∧ (w'.cell? ⟨w.heap.size + 1, 0, none⟩ = some (.slice ab m1 kb) ∧ w'.cell? ⟨w.heap.size + 1, 1, none⟩ = some (.bool g1) ∧ w'.cell? ⟨w.heap.size + 1, 2, none⟩ = some (t4) ∧ w'.cell? ⟨w.heap.size + 1, 3, none⟩ = some (t5))) wv := ⟨(C1.out.ext XE).c4, (C2.out.ext XE).c4⟩
        try simp only [Act.put, List.getElem_toArray, List.getElem_cons_succ, List.getElem_cons_zero, List.setIfInBounds_toArray, List.set_cons_zero, List.set_cons_succ]
        have k0_4 : w.heap.size ≠ B4 := by have h1 := s4.out; have hz0 := SZ1.out; omega
        have k1_4 : w.heap.size + 1 ≠ B4 := by have h1 := s4.out; have hz0 := SZ1.out; omega
        have k0_5 : w.heap.size ≠ B5 := by have h1 := s5.out; have hz0 := SZ1.out; omega
        have k1_5 : w.heap.size + 1 ≠ B5 := by have h1 := s5.out; have hz0 := SZ1.out; omega
        have n4_5 := ne4_5.out
        have n5_4 := Ne.symm n4_5
        obtain ⟨f0, f1, f2, f3, f4, f5, f6, f7, f8, rfl, -, -, OA⟩ := p1.out.op
        obtain ⟨h0, h1, h2, h3, h4, h5, h6, h7, h8, rfl, -, -, OB⟩ := p3.out.op
        obtain ⟨_, _, _, _, i4_0, i4_1, i4_2, i4_3, f4_0, f4_1, f4_2, f4_3⟩ := r4.out.c4
        refine wpAnyH_ready (rs := [6]) (by kernel_rfl) (by simp) ?_
        refine AllReadyH.cons (o := _) rfl (fun K hK => ?_) AllReadyH.nil
        go_simp
        refine hK.out _ _ (⟨(((((C1.out.ext XE).set1 k0_4 _ _).set1 k0_4 _ _).set1 k0_4 _ _).set1 k0_4 _ _).c4, (((((C2.out.ext XE).set1 k1_4 _ _).set1 k1_4 _ _).set1 k1_4 _ _).set1 k1_4 _ _).c4⟩) (fun hHeld => ?_)
        clear hK K
        try simp only [Act.put, List.getElem_toArray, List.getElem_cons_succ, List.getElem_cons_zero, List.setIfInBounds_toArray, List.set_cons_zero, List.set_cons_succ]
        clear hHeld
        refine gen_world (P := wpAnyH _ _ _ _ _ _ _ _) _ (fun Wg6 hWg6 => ?_)
        have CG6_0 : Bx Wg6 (w.heap.size) [.slice aa m0 ka, .bool g0, t1, t2] := by rw [hWg6]; exact (((((C1.out.ext XE).set1 k0_4 _ _).set1 k0_4 _ _).set1 k0_4 _ _).set1 k0_4 _ _)
        have CG6_1 : Bx Wg6 (w.heap.size + 1) [.slice ab m1 kb, .bool g1, t4, t5] := by rw [hWg6]; exact (((((C2.out.ext XE).set1 k1_4 _ _).set1 k1_4 _ _).set1 k1_4 _ _).set1 k1_4 _ _)
        have RG6_5 : Rt Wg6 B5 4 63 := by rw [hWg6]; exact ((((r5.out.set1 n5_4 _ _).set1 n5_4 _ _).set1 n5_4 _ _).set1 n5_4 _ _)
        have hHeld : (fun w' => (w'.cell? ⟨w.heap.size, 0, none⟩ = some (.slice aa m0 ka) ∧ w'.cell? ⟨w.heap.size, 1, none⟩ = some (.bool g0) ∧ w'.cell? ⟨w.heap.size, 2, none⟩ = some (t1) ∧ w'.cell? ⟨w.heap.size, 3, none⟩ = some (t2)) ∧ (w'.cell? ⟨w.heap.size + 1, 0, none⟩ = some (.slice ab m1 kb) ∧ w'.cell? ⟨w.heap.size + 1, 1, none⟩ = some (.bool g1) ∧ w'.cell? ⟨w.heap.size + 1, 2, none⟩ = some (t4) ∧ w'.cell? ⟨w.heap.size + 1, 3, none⟩ = some (t5))) Wg6 := ⟨CG6_0.c4, CG6_1.c4⟩
        have HWg6 := Lib.hid hWg6
        clear hWg6
        clear i4_0 f4_0 i4_1 f4_1 i4_2 f4_2 i4_3 f4_3
        obtain ⟨_, _, _, _, i5_0, i5_1, i5_2, i5_3, f5_0, f5_1, f5_2, f5_3⟩ := RG6_5.c4
        refine wpAnyH_ready (rs := [7]) (by kernel_rfl) (by simp) ?_
        refine AllReadyH.cons (o := _) rfl (fun K hK => ?_) AllReadyH.nil
        go_simp
        refine hK.out _ _ (⟨((((CG6_0.set1 k0_5 _ _).set1 k0_5 _ _).set1 k0_5 _ _).set1 k0_5 _ _).c4, ((((CG6_1.set1 k1_5 _ _).set1 k1_5 _ _).set1 k1_5 _ _).set1 k1_5 _ _).c4⟩) (fun hHeld => ?_)
        clear hK K
        try simp only [Act.put, List.getElem_toArray, List.getElem_cons_succ, List.getElem_cons_zero, List.setIfInBounds_toArray, List.set_cons_zero, List.set_cons_succ]
        refine wpAnyH_done (by kernel_rfl) ?_ _
        refine NoPanic.normal ?_
        rw [HWg6.out]
        go_wp2_with fail
        go_meet
        obtain ⟨W, hW, hM1, hM2, hM3, hM4, hM5⟩ := meet44 r4.out r5.out ne4_5.out hX.out s4.out s5.out (by decide) (by decide) OA.out OB.out
        rw [← hW]
        exact ⟨B4, B5, _, _, _, _, _, _, _, _, rfl, rfl, hM1, hM2, hM3, hM4, hM5⟩
      have L1_4_5 : ∀ (wv : World) (v1 : Value) (B4 B5 : Nat), Hid (Ext w1 wv) → Hid (OwnX 0 wv v1 la ca) → Hid (Rt wv B4 4 63) → Hid (w1.heap.size ≤ B4) → Hid (Rt wv B5 4 63) → Hid (w1.heap.size ≤ B5) → Hid (B4 ≠ B5) → wpAnyH Try.prog .any O Q9 SS 3 #[true, true, true, false, true, true, false, false] (((AA.put (some 14) v1).put (some 7) (.pointer (some ⟨B4, 0, none⟩))).put (some 8) (.pointer (some ⟨B5, 0, none⟩))) wv := by
        intro wv v1 B4 B5 hX p1 r4 s4 r5 s5 ne4_5
        have hO1 := hO.out
        have hQ1 := hQ.out
        have hA1 := hA.out
        subst hO1
        subst hQ1
        subst hA1
        have XE := hX.out
        try simp only [Act.put, List.getElem_toArray, List.getElem_cons_succ, List.getElem_cons_zero, List.setIfInBounds_toArray, List.set_cons_zero, List.set_cons_succ]
        refine wpAnyH_ready (rs := [3]) (by kernel_rfl) (by simp) ?_
        refine AllReadyH.cons (o := _) rfl (fun K hK => ?_) AllReadyH.nil
        go_simp
        go_at_call 31
        refine (HEB.out _ _ (HV1.out.ext (Ext.trans b1 XE))).mono ?_
        rintro e wn ⟨vn, rfl, bn, on⟩
        go_wp2_with fail
        refine hK.out _ _ (KP.out _ (Ext.trans XE bn)) (fun _ => ?_)
        clear hK K
        try simp only [Act.put, List.getElem_toArray, List.getElem_cons_succ, List.getElem_cons_zero, List.setIfInBounds_toArray, List.set_cons_zero, List.set_cons_succ]
        exact wpAnyH_at (L2_4_5 wn v1 vn B4 B5 (Ext.trans XE bn) (p1.out.ext bn) (on) (r4.out.ext bn) s4 (r5.out.ext bn) s5 ne4_5) (by kernel_rfl) (by kernel_rfl) (by kernel_rfl)
      have L2_5 : ∀ (wv : World) (v1 v3 : Value) (B5 : Nat), Hid (Ext w1 wv) → Hid (OwnX 0 wv v1 la ca) → Hid (OwnX 0 wv v3 lb cb) → Hid (Rt wv B5 4 63) → Hid (w1.heap.size ≤ B5) → wpAnyH Try.prog .any O Q9 SS 3 #[true, true, true, true, false, true, false, false] (((AA.put (some 14) v1).put (some 16) v3).put (some 8) (.pointer (some ⟨B5, 0, none⟩))) wv := by
        intro wv v1 v3 B5 hX p1 p3 r5 s5
        have hO1 := hO.out
        have hQ1 := hQ.out
        have hA1 := hA.out
        subst hO1
        subst hQ1
        subst hA1
        have XE := hX.out
        try simp only [Act.put, List.getElem_toArray, List.getElem_cons_succ, List.getElem_cons_zero, List.setIfInBounds_toArray, List.set_cons_zero, List.set_cons_succ]
        refine wpAnyH_ready (rs := [4]) (by kernel_rfl) (by simp) ?_
        refine AllReadyH.cons (o := _) rfl (fun K hK => ?_) AllReadyH.nil
        go_simp
        refine hK.out _ _ (KP.out _ (Ext.trans XE (Ext.alloc _ _))) (fun _ => ?_)
        clear hK K
        try simp only [Act.put, List.getElem_toArray, List.getElem_cons_succ, List.getElem_cons_zero, List.setIfInBounds_toArray, List.set_cons_zero, List.set_cons_succ]
        exact wpAnyH_at (L2_4_5 _ v1 v3 wv.heap.size B5 (Ext.trans XE (Ext.alloc wv (.cells [.slice none 0 0, .bool false, .slice none 0 0, .slice none 0 0].toArray 63))) (p1.out.ext (Ext.alloc wv (.cells [.slice none 0 0, .bool false, .slice none 0 0, .slice none 0 0].toArray 63))) (p3.out.ext (Ext.alloc wv (.cells [.slice none 0 0, .bool false, .slice none 0 0, .slice none 0 0].toArray 63))) (Rt.new wv [.slice none 0 0, .bool false, .slice none 0 0, .slice none 0 0] 63) (Below.size XE) (r5.out.ext (Ext.alloc wv (.cells [.slice none 0 0, .bool false, .slice none 0 0, .slice none 0 0].toArray 63))) s5 (Nat.ne_of_gt r5.out.lt)) (by kernel_rfl) (by kernel_rfl) (by kernel_rfl)
      have L2_4 : ∀ (wv : World) (v1 v3 : Value) (B4 : Nat), Hid (Ext w1 wv) → Hid (OwnX 0 wv v1 la ca) → Hid (OwnX 0 wv v3 lb cb) → Hid (Rt wv B4 4 63) → Hid (w1.heap.size ≤ B4) → wpAnyH Try.prog .any O Q9 SS 3 #[true, true, true, true, true, false, false, false] (((AA.put (some 14) v1).put (some 16) v3).put (some 7) (.pointer (some ⟨B4, 0, none⟩))) wv := by
        intro wv v1 v3 B4 hX p1 p3 r4 s4
        have hO1 := hO.out
        have hQ1 := hQ.out
        have hA1 := hA.out
        subst hO1
        subst hQ1
        subst hA1
        have XE := hX.out
        try simp only [Act.put, List.getElem_toArray, List.getElem_cons_succ, List.getElem_cons_zero, List.setIfInBounds_toArray, List.set_cons_zero, List.set_cons_succ]
        refine wpAnyH_ready (rs := [5]) (by kernel_rfl) (by simp) ?_
        refine AllReadyH.cons (o := _) rfl (fun K hK => ?_) AllReadyH.nil
        go_simp
        refine hK.out _ _ (KP.out _ (Ext.trans XE (Ext.alloc _ _))) (fun _ => ?_)
        clear hK K
        try simp only [Act.put, List.getElem_toArray, List.getElem_cons_succ, List.getElem_cons_zero, List.setIfInBounds_toArray, List.set_cons_zero, List.set_cons_succ]
        exact wpAnyH_at (L2_4_5 _ v1 v3 B4 wv.heap.size (Ext.trans XE (Ext.alloc wv (.cells [.slice none 0 0, .bool false, .slice none 0 0, .slice none 0 0].toArray 63))) (p1.out.ext (Ext.alloc wv (.cells [.slice none 0 0, .bool false, .slice none 0 0, .slice none 0 0].toArray 63))) (p3.out.ext (Ext.alloc wv (.cells [.slice none 0 0, .bool false, .slice none 0 0, .slice none 0 0].toArray 63))) (r4.out.ext (Ext.alloc wv (.cells [.slice none 0 0, .bool false, .slice none 0 0, .slice none 0 0].toArray 63))) s4 (Rt.new wv [.slice none 0 0, .bool false, .slice none 0 0, .slice none 0 0] 63) (Below.size XE) (Nat.ne_of_lt r4.out.lt)) (by kernel_rfl) (by kernel_rfl) (by kernel_rfl)
      have L0_4_5 : ∀ (wv : World) (B4 B5 : Nat), Hid (Ext w1 wv) → Hid (Rt wv B4 4 63) → Hid (w1.heap.size ≤ B4) → Hid (Rt wv B5 4 63) → Hid (w1.heap.size ≤ B5) → Hid (B4 ≠ B5) → wpAnyH Try.prog .any O Q9 SS 4 #[true, false, true, false, true, true, false, false] ((AA.put (some 7) (.pointer (some ⟨B4, 0, none⟩))).put (some 8) (.pointer (some ⟨B5, 0, none⟩))) wv := by
        intro wv B4 B5 hX r4 s4 r5 s5 ne4_5
        have hO1 := hO.out
        have hQ1 := hQ.out
        have hA1 := hA.out
        subst hO1
        subst hQ1
        subst hA1
        have XE := hX.out
        try simp only [Act.put, List.getElem_toArray, List.getElem_cons_succ, List.getElem_cons_zero, List.setIfInBounds_toArray, List.set_cons_zero, List.set_cons_succ]
        refine wpAnyH_ready (rs := [1]) (by kernel_rfl) (by simp) ?_
        refine AllReadyH.cons (o := _) rfl (fun K hK => ?_) AllReadyH.nil
        go_simp
        go_at_call 31
        refine (HEA.out _ _ (HV0.out.ext (Ext.trans b1 XE))).mono ?_
        rintro e wn ⟨vn, rfl, bn, on⟩
        go_wp2_with fail
        refine hK.out _ _ (KP.out _ (Ext.trans XE bn)) (fun _ => ?_)
        clear hK K
        try simp only [Act.put, List.getElem_toArray, List.getElem_cons_succ, List.getElem_cons_zero, List.setIfInBounds_toArray, List.set_cons_zero, List.set_cons_succ]
        exact wpAnyH_at (L1_4_5 wn vn B4 B5 (Ext.trans XE bn) (on) (r4.out.ext bn) s4 (r5.out.ext bn) s5 ne4_5) (by kernel_rfl) (by kernel_rfl) (by kernel_rfl)
      have L1_5 : ∀ (wv : World) (v1 : Value) (B5 : Nat), Hid (Ext w1 wv) → Hid (OwnX 0 wv v1 la ca) → Hid (Rt wv B5 4 63) → Hid (w1.heap.size ≤ B5) → wpAnyH Try.prog .any O Q9 SS 4 #[true, true, true, false, false, true, false, false] ((AA.put (some 14) v1).put (some 8) (.pointer (some ⟨B5, 0, none⟩))) wv := by
        intro wv v1 B5 hX p1 r5 s5
        have hO1 := hO.out
        have hQ1 := hQ.out
        have hA1 := hA.out
        subst hO1
        subst hQ1
        subst hA1
        have XE := hX.out
        try simp only [Act.put, List.getElem_toArray, List.getElem_cons_succ, List.getElem_cons_zero, List.setIfInBounds_toArray, List.set_cons_zero, List.set_cons_succ]
        refine wpAnyH_ready (rs := [3, 4]) (by kernel_rfl) (by simp) ?_
        refine AllReadyH.cons (o := _) rfl (fun K hK => ?_) (AllReadyH.cons (o := _) rfl (fun K hK => ?_) AllReadyH.nil)
        · skip
          go_simp
          go_at_call 31
          refine (HEB.out _ _ (HV1.out.ext (Ext.trans b1 XE))).mono ?_
          rintro e wn ⟨vn, rfl, bn, on⟩
          go_wp2_with fail
          refine hK.out _ _ (KP.out _ (Ext.trans XE bn)) (fun _ => ?_)
          clear hK K
          try simp only [Act.put, List.getElem_toArray, List.getElem_cons_succ, List.getElem_cons_zero, List.setIfInBounds_toArray, List.set_cons_zero, List.set_cons_succ]
          exact wpAnyH_at (L2_5 wn v1 vn B5 (Ext.trans XE bn) (p1.out.ext bn) (on) (r5.out.ext bn) s5) (by kernel_rfl) (by kernel_rfl) (by kernel_rfl)
        · skip
          go_simp
          refine hK.out _ _ (KP.out _ (Ext.trans XE (Ext.alloc _ _))) (fun _ => ?_)
          clear hK K
          try simp only [Act.put, List.getElem_toArray, List.getElem_cons_succ, List.getElem_cons_zero, List.setIfInBounds_toArray, List.set_cons_zero, List.set_cons_succ]
          exact wpAnyH_at (L1_4_5 _ v1 wv.heap.size B5 (Ext.trans XE (Ext.alloc wv (.cells [.slice none 0 0, .bool false, .slice none 0 0, .slice none 0 0].toArray 63))) (p1.out.ext (Ext.alloc wv (.cells [.slice none 0 0, .bool false, .slice none 0 0, .slice none 0 0].toArray 63))) (Rt.new wv [.slice none 0 0, .bool false, .slice none 0 0, .slice none 0 0] 63) (Below.size XE) (r5.out.ext (Ext.alloc wv (.cells [.slice none 0 0, .bool false, .slice none 0 0, .slice none 0 0].toArray 63))) s5 (Nat.ne_of_gt r5.out.lt)) (by kernel_rfl) (by kernel_rfl) (by kernel_rfl)
      have L1_4 : ∀ (wv : World) (v1 : Value) (B4 : Nat), Hid (Ext w1 wv) → Hid (OwnX 0 wv v1 la ca) → Hid (Rt wv B4 4 63) → Hid (w1.heap.size ≤ B4) → wpAnyH Try.prog .any O Q9 SS 4 #[true, true, true, false, true, false, false, false] ((AA.put (some 14) v1).put (some 7) (.pointer (some ⟨B4, 0, none⟩))) wv := by
        intro wv v1 B4 hX p1 r4 s4
        have hO1 := hO.out
        have hQ1 := hQ.out
        have hA1 := hA.out
        subst hO1
        subst hQ1
        subst hA1
        have XE := hX.out
        try simp only [Act.put, List.getElem_toArray, List.getElem_cons_succ, List.getElem_cons_zero, List.setIfInBounds_toArray, List.set_cons_zero, List.set_cons_succ]
        refine wpAnyH_ready (rs := [3, 5]) (by kernel_rfl) (by simp) ?_
        refine AllReadyH.cons (o := _) rfl (fun K hK => ?_) (AllReadyH.cons (o := _) rfl (fun K hK => ?_) AllReadyH.nil)
        · skip
          go_simp
          go_at_call 31
          refine (HEB.out _ _ (HV1.out.ext (Ext.trans b1 XE))).mono ?_
          rintro e wn ⟨vn, rfl, bn, on⟩
          go_wp2_with fail
          refine hK.out _ _ (KP.out _ (Ext.trans XE bn)) (fun _ => ?_)
          clear hK K
          try simp only [Act.put, List.getElem_toArray, List.getElem_cons_succ, List.getElem_cons_zero, List.setIfInBounds_toArray, List.set_cons_zero, List.set_cons_succ]
          exact wpAnyH_at (L2_4 wn v1 vn B4 (Ext.trans XE bn) (p1.out.ext bn) (on) (r4.out.ext bn) s4) (by kernel_rfl) (by kernel_rfl) (by kernel_rfl)
        · skip
          go_simp
          refine hK.out _ _ (KP.out _ (Ext.trans XE (Ext.alloc _ _))) (fun _ => ?_)
          clear hK K
          try simp only [Act.put, List.getElem_toArray, List.getElem_cons_succ, List.getElem_cons_zero, List.setIfInBounds_toArray, List.set_cons_zero, List.set_cons_succ]
          exact wpAnyH_at (L1_4_5 _ v1 B4 wv.heap.size (Ext.trans XE (Ext.alloc wv (.cells [.slice none 0 0, .bool false, .slice none 0 0, .slice none 0 0].toArray 63))) (p1.out.ext (Ext.alloc wv (.cells [.slice none 0 0, .bool false, .slice none 0 0, .slice none 0 0].toArray 63))) (r4.out.ext (Ext.alloc wv (.cells [.slice none 0 0, .bool false, .slice none 0 0, .slice none 0 0].toArray 63))) s4 (Rt.new wv [.slice none 0 0, .bool false, .slice none 0 0, .slice none 0 0] 63) (Below.size XE) (Nat.ne_of_lt r4.out.lt)) (by kernel_rfl) (by kernel_rfl) (by kernel_rfl)
      have L2_ : ∀ (wv : World) (v1 v3 : Value), Hid (Ext w1 wv) → Hid (OwnX 0 wv v1 la ca) → Hid (OwnX 0 wv v3 lb cb) → wpAnyH Try.prog .any O Q9 SS 4 #[true, true, true, true, false, false, false, false] ((AA.put (some 14) v1).put (some 16) v3) wv := by
        intro wv v1 v3 hX p1 p3
        have hO1 := hO.out
        have hQ1 := hQ.out
        have hA1 := hA.out
        subst hO1
        subst hQ1
        subst hA1
        have XE := hX.out
        try simp only [Act.put, List.getElem_toArray, List.getElem_cons_succ, List.getElem_cons_zero, List.setIfInBounds_toArray, List.set_cons_zero, List.set_cons_succ]
        refine wpAnyH_ready (rs := [4, 5]) (by kernel_rfl) (by simp) ?_
        refine AllReadyH.cons (o := _) rfl (fun K hK => ?_) (AllReadyH.cons (o := _) rfl (fun K hK => ?_) AllReadyH.nil)
        · skip
          go_simp
          refine hK.out _ _ (KP.out _ (Ext.trans XE (Ext.alloc _ _))) (fun _ => ?_)
          clear hK K
          try simp only [Act.put, List.getElem_toArray, List.getElem_cons_succ, List.getElem_cons_zero, List.setIfInBounds_toArray, List.set_cons_zero, List.set_cons_succ]
          exact wpAnyH_at (L2_4 _ v1 v3 wv.heap.size (Ext.trans XE (Ext.alloc wv (.cells [.slice none 0 0, .bool false, .slice none 0 0, .slice none 0 0].toArray 63))) (p1.out.ext (Ext.alloc wv (.cells [.slice none 0 0, .bool false, .slice none 0 0, .slice none 0 0].toArray 63))) (p3.out.ext (Ext.alloc wv (.cells [.slice none 0 0, .bool false, .slice none 0 0, .slice none 0 0].toArray 63))) (Rt.new wv [.slice none 0 0, .bool false, .slice none 0 0, .slice none 0 0] 63) (Below.size XE)) (by kernel_rfl) (by kernel_rfl) (by kernel_rfl)
        · skip
          go_simp
          refine hK.out _ _ (KP.out _ (Ext.trans XE (Ext.alloc _ _))) (fun _ => ?_)
          clear hK K
          try simp only [Act.put, List.getElem_toArray, List.getElem_cons_succ, List.getElem_cons_zero, List.setIfInBounds_toArray, List.set_cons_zero, List.set_cons_succ]
          exact wpAnyH_at (L2_5 _ v1 v3 wv.heap.size (Ext.trans XE (Ext.alloc wv (.cells [.slice none 0 0, .bool false, .slice none 0 0, .slice none 0 0].toArray 63))) (p1.out.ext (Ext.alloc wv (.cells [.slice none 0 0, .bool false, .slice none 0 0, .slice none 0 0].toArray 63))) (p3.out.ext (Ext.alloc wv (.cells [.slice none 0 0, .bool false, .slice none 0 0, .slice none 0 0].toArray 63))) (Rt.new wv [.slice none 0 0, .bool false, .slice none 0 0, .slice none 0 0] 63) (Below.size XE)) (by kernel_rfl) (by kernel_rfl) (by kernel_rfl)
      have L0_5 : ∀ (wv : World) (B5 : Nat), Hid (Ext w1 wv) → Hid (Rt wv B5 4 63) → Hid (w1.heap.size ≤ B5) → wpAnyH Try.prog .any O Q9 SS 5 #[true, false, true, false, false, true, false, false] (AA.put (some 8) (.pointer (some ⟨B5, 0, none⟩))) wv := by
        intro wv B5 hX r5 s5
        have hO1 := hO.out
        have hQ1 := hQ.out
        have hA1 := hA.out
        subst hO1
        subst hQ1
        subst hA1
        have XE := hX.out
        try simp only [Act.put, List.getElem_toArray, List.getElem_cons_succ, List.getElem_cons_zero, List.setIfInBounds_toArray, List.set_cons_zero, List.set_cons_succ]
        refine wpAnyH_ready (rs := [1, 4]) (by kernel_rfl) (by simp) ?_
        refine AllReadyH.cons (o := _) rfl (fun K hK => ?_) (AllReadyH.cons (o := _) rfl (fun K hK => ?_) AllReadyH.nil)
        · skip
          go_simp
          go_at_call 31
          refine (HEA.out _ _ (HV0.out.ext (Ext.trans b1 XE))).mono ?_
          rintro e wn ⟨vn, rfl, bn, on⟩
          go_wp2_with fail
          refine hK.out _ _ (KP.out _ (Ext.trans XE bn)) (fun _ => ?_)
          clear hK K
          try simp only [Act.put, List.getElem_toArray, List.getElem_cons_succ, List.getElem_cons_zero, List.setIfInBounds_toArray, List.set_cons_zero, List.set_cons_succ]
          exact wpAnyH_at (L1_5 wn vn B5 (Ext.trans XE bn) (on) (r5.out.ext bn) s5) (by kernel_rfl) (by kernel_rfl) (by kernel_rfl)
        · skip
          go_simp
          refine hK.out _ _ (KP.out _ (Ext.trans XE (Ext.alloc _ _))) (fun _ => ?_)
          clear hK K
          try simp only [Act.put, List.getElem_toArray, List.getElem_cons_succ, List.getElem_cons_zero, List.setIfInBounds_toArray, List.set_cons_zero, List.set_cons_succ]
          exact wpAnyH_at (L0_4_5 _ wv.heap.size B5 (Ext.trans XE (Ext.alloc wv (.cells [.slice none 0 0, .bool false, .slice none 0 0, .slice none 0 0].toArray 63))) (Rt.new wv [.slice none 0 0, .bool false, .slice none 0 0, .slice none 0 0] 63) (Below.size XE) (r5.out.ext (Ext.alloc wv (.cells [.slice none 0 0, .bool false, .slice none 0 0, .slice none 0 0].toArray 63))) s5 (Nat.ne_of_gt r5.out.lt)) (by kernel_rfl) (by kernel_rfl) (by kernel_rfl)
      have L0_4 : ∀ (wv : World) (B4 : Nat), Hid (Ext w1 wv) → Hid (Rt wv B4 4 63) → Hid (w1.heap.size ≤ B4) → wpAnyH Try.prog .any O Q9 SS 5 #[true, false, true, false, true, false, false, false] (AA.put (some 7) (.pointer (some ⟨B4, 0, none⟩))) wv := by
        intro wv B4 hX r4 s4
        have hO1 := hO.out
        have hQ1 := hQ.out
        have hA1 := hA.out
        subst hO1
        subst hQ1
        subst hA1
        have XE := hX.out
        try simp only [Act.put, List.getElem_toArray, List.getElem_cons_succ, List.getElem_cons_zero, List.setIfInBounds_toArray, List.set_cons_zero, List.set_cons_succ]
        refine wpAnyH_ready (rs := [1, 5]) (by kernel_rfl) (by simp) ?_
        refine AllReadyH.cons (o := _) rfl (fun K hK => ?_) (AllReadyH.cons (o := _) rfl (fun K hK => ?_) AllReadyH.nil)
        · skip
          go_simp
          go_at_call 31
          refine (HEA.out _ _ (HV0.out.ext (Ext.trans b1 XE))).mono ?_
          rintro e wn ⟨vn, rfl, bn, on⟩
          go_wp2_with fail
          refine hK.out _ _ (KP.out _ (Ext.trans XE bn)) (fun _ => ?_)
          clear hK K
          try simp only [Act.put, List.getElem_toArray, List.getElem_cons_succ, List.getElem_cons_zero, List.setIfInBounds_toArray, List.set_cons_zero, List.set_cons_succ]
          exact wpAnyH_at (L1_4 wn vn B4 (Ext.trans XE bn) (on) (r4.out.ext bn) s4) (by kernel_rfl) (by kernel_rfl) (by kernel_rfl)
        · skip
          go_simp
          refine hK.out _ _ (KP.out _ (Ext.trans XE (Ext.alloc _ _))) (fun _ => ?_)
          clear hK K
          try simp only [Act.put, List.getElem_toArray, List.getElem_cons_succ, List.getElem_cons_zero, List.setIfInBounds_toArray, List.set_cons_zero, List.set_cons_succ]
          exact wpAnyH_at (L0_4_5 _ B4 wv.heap.size (Ext.trans XE (Ext.alloc wv (.cells [.slice none 0 0, .bool false, .slice none 0 0, .slice none 0 0].toArray 63))) (r4.out.ext (Ext.alloc wv (.cells [.slice none 0 0, .bool false, .slice none 0 0, .slice none 0 0].toArray 63))) s4 (Rt.new wv [.slice none 0 0, .bool false, .slice none 0 0, .slice none 0 0] 63) (Below.size XE) (Nat.ne_of_lt r4.out.lt)) (by kernel_rfl) (by kernel_rfl) (by kernel_rfl)
      have L1_ : ∀ (wv : World) (v1 : Value), Hid (Ext w1 wv) → Hid (OwnX 0 wv v1 la ca) → wpAnyH Try.prog .any O Q9 SS 5 #[true, true, true, false, false, false, false, false] (AA.put (some 14) v1) wv := by
        intro wv v1 hX p1
        have hO1 := hO.out
        have hQ1 := hQ.out
        have hA1 := hA.out
        subst hO1
        subst hQ1
        subst hA1
        have XE := hX.out
        try simp only [Act.put, List.getElem_toArray, List.getElem_cons_succ, List.getElem_cons_zero, List.setIfInBounds_toArray, List.set_cons_zero, List.set_cons_succ]
        refine wpAnyH_ready (rs := [3, 4, 5]) (by kernel_rfl) (by simp) ?_
        refine AllReadyH.cons (o := _) rfl (fun K hK => ?_) (AllReadyH.cons (o := _) rfl (fun K hK => ?_) (AllReadyH.cons (o := _) rfl (fun K hK => ?_) AllReadyH.nil))
        · skip
          go_simp
          go_at_call 31
          refine (HEB.out _ _ (HV1.out.ext (Ext.trans b1 XE))).mono ?_
          rintro e wn ⟨vn, rfl, bn, on⟩
          go_wp2_with fail
          refine hK.out _ _ (KP.out _ (Ext.trans XE bn)) (fun _ => ?_)
          clear hK K
          try simp only [Act.put, List.getElem_toArray, List.getElem_cons_succ, List.getElem_cons_zero, List.setIfInBounds_toArray, List.set_cons_zero, List.set_cons_succ]
          exact wpAnyH_at (L2_ wn v1 vn (Ext.trans XE bn) (p1.out.ext bn) (on)) (by kernel_rfl) (by kernel_rfl) (by kernel_rfl)
        · skip
          go_simp
          refine hK.out _ _ (KP.out _ (Ext.trans XE (Ext.alloc _ _))) (fun _ => ?_)
          clear hK K
          try simp only [Act.put, List.getElem_toArray, List.getElem_cons_succ, List.getElem_cons_zero, List.setIfInBounds_toArray, List.set_cons_zero, List.set_cons_succ]
          exact wpAnyH_at (L1_4 _ v1 wv.heap.size (Ext.trans XE (Ext.alloc wv (.cells [.slice none 0 0, .bool false, .slice none 0 0, .slice none 0 0].toArray 63))) (p1.out.ext (Ext.alloc wv (.cells [.slice none 0 0, .bool false, .slice none 0 0, .slice none 0 0].toArray 63))) (Rt.new wv [.slice none 0 0, .bool false, .slice none 0 0, .slice none 0 0] 63) (Below.size XE)) (by kernel_rfl) (by kernel_rfl) (by kernel_rfl)
        · skip
          go_simp
          refine hK.out _ _ (KP.out _ (Ext.trans XE (Ext.alloc _ _))) (fun _ => ?_)
          clear hK K
          try simp only [Act.put, List.getElem_toArray, List.getElem_cons_succ, List.getElem_cons_zero, List.setIfInBounds_toArray, List.set_cons_zero, List.set_cons_succ]
          exact wpAnyH_at (L1_5 _ v1 wv.heap.size (Ext.trans XE (Ext.alloc wv (.cells [.slice none 0 0, .bool false, .slice none 0 0, .slice none 0 0].toArray 63))) (p1.out.ext (Ext.alloc wv (.cells [.slice none 0 0, .bool false, .slice none 0 0, .slice none 0 0].toArray 63))) (Rt.new wv [.slice none 0 0, .bool false, .slice none 0 0, .slice none 0 0] 63) (Below.size XE)) (by kernel_rfl) (by kernel_rfl) (by kernel_rfl)
      have L0_ : ∀ (wv : World), Hid (Ext w1 wv) → wpAnyH Try.prog .any O Q9 SS 6 #[true, false, true, false, false, false, false, false] AA wv := by
        intro wv hX
        have hO1 := hO.out
        have hQ1 := hQ.out
        have hA1 := hA.out
        subst hO1
        subst hQ1
        subst hA1
        have XE := hX.out
        try simp only [Act.put, List.getElem_toArray, List.getElem_cons_succ, List.getElem_cons_zero, List.setIfInBounds_toArray, List.set_cons_zero, List.set_cons_succ]
        refine wpAnyH_ready (rs := [1, 4, 5]) (by kernel_rfl) (by simp) ?_
        refine AllReadyH.cons (o := _) rfl (fun K hK => ?_) (AllReadyH.cons (o := _) rfl (fun K hK => ?_) (AllReadyH.cons (o := _) rfl (fun K hK => ?_) AllReadyH.nil))
        · skip
          go_simp
          go_at_call 31
          refine (HEA.out _ _ (HV0.out.ext (Ext.trans b1 XE))).mono ?_
          rintro e wn ⟨vn, rfl, bn, on⟩
          go_wp2_with fail
          refine hK.out _ _ (KP.out _ (Ext.trans XE bn)) (fun _ => ?_)
          clear hK K
          try simp only [Act.put, List.getElem_toArray, List.getElem_cons_succ, List.getElem_cons_zero, List.setIfInBounds_toArray, List.set_cons_zero, List.set_cons_succ]
          exact wpAnyH_at (L1_ wn vn (Ext.trans XE bn) (on)) (by kernel_rfl) (by kernel_rfl) (by kernel_rfl)
        · skip
          go_simp
          refine hK.out _ _ (KP.out _ (Ext.trans XE (Ext.alloc _ _))) (fun _ => ?_)
          clear hK K
          try simp only [Act.put, List.getElem_toArray, List.getElem_cons_succ, List.getElem_cons_zero, List.setIfInBounds_toArray, List.set_cons_zero, List.set_cons_succ]
          exact wpAnyH_at (L0_4 _ wv.heap.size (Ext.trans XE (Ext.alloc wv (.cells [.slice none 0 0, .bool false, .slice none 0 0, .slice none 0 0].toArray 63))) (Rt.new wv [.slice none 0 0, .bool false, .slice none 0 0, .slice none 0 0] 63) (Below.size XE)) (by kernel_rfl) (by kernel_rfl) (by kernel_rfl)
        · skip
          go_simp
          refine hK.out _ _ (KP.out _ (Ext.trans XE (Ext.alloc _ _))) (fun _ => ?_)
          clear hK K
          try simp only [Act.put, List.getElem_toArray, List.getElem_cons_succ, List.getElem_cons_zero, List.setIfInBounds_toArray, List.set_cons_zero, List.set_cons_succ]
          exact wpAnyH_at (L0_5 _ wv.heap.size (Ext.trans XE (Ext.alloc wv (.cells [.slice none 0 0, .bool false, .slice none 0 0, .slice none 0 0].toArray 63))) (Rt.new wv [.slice none 0 0, .bool false, .slice none 0 0, .slice none 0 0] 63) (Below.size XE)) (by kernel_rfl) (by kernel_rfl) (by kernel_rfl)
      have hO1 := hO.out
      have hQ1 := hQ.out
      have hA1 := hA.out
      subst hO1
      subst hQ1
      subst hA1
      have hS1 := hSS.out
      subst hS1
      exact wpAnyH_at (L0_ w1.drew (drew_ext w1)) (by kernel_rfl) (by kernel_rfl) (by kernel_rfl)
  case rest =>
    as_aux_lemma =>
      obtain ⟨B4, B5, x0, x1, x2, x3, y0, y1, y2, y3, rfl, rfl, b4, C6, C7, OA, OB⟩ := hcut
      generalize wc = w4 at *
      have b04 := Ext.trans b1 b4
      have HTX : Hid (∀ w', Ext w4 w' → Calls Try.prog 33 #[.agg #[x0, x1, x2, x3]] w' (Gives w' fun v' w' => RdY w' v' la ca)) := fun w' x => told8_ok (OA.out.rd.ext x) ZA.out.okx
      have HTY : Hid (∀ w', Ext w4 w' → Calls Try.prog 33 #[.agg #[y0, y1, y2, y3]] w' (Gives w' fun v' w' => RdY w' v' lb cb)) := fun w' x => told8_ok (OB.out.rd.ext x) ZB.out.okx
      obtain ⟨a, k, s, b, m, d, b', m', d', he, hlk, hkm, HRW, HRC⟩ := OA.out.rd.op
      simp only [Value.agg.injEq, Array.mk.injEq, List.cons.injEq, and_true] at he
      obtain ⟨rfl, rfl, rfl, rfl⟩ := he
      clear OA OB
      obtain ⟨k0, k1, k2, k3⟩ := C6.out.c4
      go_upto_region 2 with (fail)
      go_wp2_with fail
      refine (HTX.out _ (Ext.refl _)).mono ?_
      rintro e w5 ⟨v5, rfl, b5, o5⟩
      have O5 := Lib.hid o5
      clear o5 k0 k1 k2 k3
      go_wp2_with fail
      refine (HCO.out _ _ O5.out).mono ?_
      rintro e w6 ⟨_, rfl, b6, o6⟩
      obtain ⟨s7, a7, l7, c7, a6, l6, c6, rfl, O6⟩ := o6.op
      clear o6
      obtain ⟨w7, hw7, b7, c7', -, -⟩ := bx1 w6 [.bool s7, .slice a7 l7 c7, .slice a6 l6 c6] 46
      have HW := Lib.hid hw7
      have CN := Lib.hid c7'
      clear hw7 c7'
      go_upto_region 3 with (fail)
      rw [← HW.out]
      clear HW
      have b47 := Ext.trans b5 (Ext.trans b6 b7)
      have b07 := Ext.trans b04 b47
      have HQ7 := Lib.hid (O6.out.ext b7)
      have HRW7 := Lib.hid (HRW.out.ext OwnTm.ext b47)
      have HRC7 := Lib.hid (HRC.out.ext b47)
      have D1 := Lib.hid (C1.out.ext (Ext.trans b4 b47))
      have D2 := Lib.hid (C2.out.ext (Ext.trans b4 b47))
      have D6 := Lib.hid (C6.out.ext b47)
      have D7 := Lib.hid (C7.out.ext b47)
      obtain ⟨BC, hBC⟩ : ∃ BC, w6.heap.size = BC := ⟨_, rfl⟩
      rw [hBC] at CN ⊢
      clear hBC O6 O5 HRW HRC C1 C2 C6 C7
      obtain ⟨w8, hw8, b8, c8, r8, -⟩ := bx1 w7 [.slice none 0 0, .bool s, .slice b m d, .slice b' m' d'] 63
      have HW := Lib.hid hw8
      have R8 : Hid (Rt w8 w7.heap.size 4 63) := by
        show Rt _ _ _ _
        rw [hw8]
        exact Rt.new w7 [.slice none 0 0, .bool s, .slice b m d, .slice b' m' d'] 63
      have C8 := Lib.hid c8
      clear hw8 c8 r8
      obtain ⟨k0, k1, k2, k3⟩ := D6.out.c4
      go_upto_region 4 with (fail)
      rw [← HW.out]
      clear HW k0 k1 k2 k3
      obtain ⟨BO, hBO⟩ : ∃ BO, w7.heap.size = BO := ⟨_, rfl⟩
      have hBO3 : w7.heap.size ≤ BO := Nat.le_of_eq hBO
      rw [hBO] at C8 R8 ⊢
      clear hBO
      obtain ⟨k0, k1, k2, k3⟩ := (D6.out.ext b8).c4
      go_wp2_with fail
      clear k0 k1 k2 k3
      have hla : la.length ≤ 12 := ZA.out.1
      go_loopw [27] (fun t wr => ∃ (j : Nat) (ao : Option Addr) (ko : Nat), t = .int .i64 j ∧ j ≤ la.length ∧ Ext w7 wr ∧ Hid (Bx wr BO [.slice ao (rst (la.take j) x).length ko, .bool s, .slice b m d, .slice b' m' d']) ∧ Hid (Rt wr BO 4 63) ∧ Hid (OwnRow 4 (OwnTm 163) 84 w7.heap.size wr (.slice ao (rst (la.take j) x).length ko) (rst (la.take j) x))) (fun t _ => la.length - (intOf t).toNat)
      case atStart => exact ⟨0, none, 0, rfl, Nat.zero_le _, b8, by rw [List.take_zero]; exact C8.out, R8.out, by rw [List.take_zero]; exact OwnRow.nil _ _ _⟩
      case round =>
        clear C8 R8
        obtain ⟨j, ao, ko, rfl, hj, hx, hC, hRt, hO⟩ := hrel
        by_cases hjl : j < la.length
        · have hd : decide ((j : Int) < (la.length : Int)) = true := decide_eq_true (by omega)
          obtain ⟨bT, oT, rfl⟩ := HRW7.out.some_at hjl
          obtain ⟨sx, ax, lx, mx, ay, ly, my, hB4, hQT⟩ := HRW7.out.tm j hjl
          obtain ⟨u0, u1, u2, u3⟩ := hB4.ext hx
          have hJ1 : IntKind.i64.wrap (j : Int) = (j : Int) := by rw [IntKind.wrap_i64]; omega
          have hJ2 : (0 : Int) ≤ (j : Int) ∧ (j : Int) < (la.length : Int) := ⟨by omega, by omega⟩
          have HSN := Lib.hid (rst_take x hjl)
          have HOL : Hid ((rst (la.take j) x).length ≤ j) := by show _ ≤ _; have := rst_len (la.take j) x; rw [List.length_take] at this; omega
          obtain ⟨y, hy⟩ : ∃ y, (gt la j).1 = y := ⟨_, rfl⟩
          obtain ⟨q4, hq4⟩ : ∃ q4, (gt la j).2 = q4 := ⟨_, rfl⟩
          have hyq : gt la j = (y, q4) := Prod.ext hy hq4
          rw [hyq] at HSN
          rw [hy] at u0
          rw [hq4] at hQT
          have HQT := Lib.hid (hQT.ext hx)
          clear hy hq4 hyq hB4 hQT
          change Hid (rst (la.take (j + 1)) x = if y = x then rst (la.take j) x else rst (la.take j) x ++ [(y, q4)]) at HSN
          obtain ⟨ol, hol⟩ : ∃ ol, rst (la.take j) x = ol := ⟨_, rfl⟩
          rw [hol] at hC hO HOL HSN
          clear hol
          obtain ⟨wb, hwb, b6', cb', -, -⟩ := bx1 wr [.int .i64 y, .bool sx, .slice ax lx mx, .slice ay ly my] 84
          have HW := Lib.hid hwb
          have DT := Lib.hid cb'
          clear hwb cb'
          go_upto_region 7 with (fail)
          rw [← HW.out]
          clear HW u0 u1 u2 u3
          have DO := Lib.hid (hC.out.ext b6')
          have hRt6 := Lib.hid (hRt.out.ext b6')
          have hO6 := Lib.hid (hO.out.ext OwnTm.ext b6')
          have HQ6 := Lib.hid (HQT.out.ext b6')
          have x6 := Ext.trans hx b6'
          clear hC hRt hO HQT
          obtain ⟨p0, p1, p2, p3⟩ := DT.out.c4
          by_cases hyx : y = x
          · have he : (y != x) = false := bneF hyx
            rw [if_pos hyx] at HSN
            clear hyx
            go_wp2_with fail
            go_roundw
            case rel => exact ⟨j + 1, ao, ko, by go_num, by omega, x6, by rw [HSN.out]; exact DO.out, hRt6.out, by rw [HSN.out]; exact hO6.out⟩
            case measure => simp [intOf] <;> omega
          · have he : (y != x) = true := bneT hyx
            rw [if_neg hyx] at HSN
            clear hyx
            have neO := hO6.out.ne_rt hRt6.out (by decide)
            obtain ⟨ol2, hol2⟩ : ∃ ol2, ol ++ [(y, q4)] = ol2 := ⟨_, rfl⟩
            have HS2 := Lib.hid hol2
            rw [hol2] at HSN
            clear hol2
            obtain ⟨k0, k1, k2, k3⟩ := DO.out.c4
            go_wp2_with (at_builtin; refine append_rowL (y := (y, q4)) etTm (kdT (e := 163) (by decide)) (by rfl) _ _ (by rfl) w7.heap.size (by rfl) _ (by rfl) hO6.out rfl ⟨_, _, _, rfl, HQ6.out⟩ (Below.size x6) (by have := HOL.out; omega) (by have := HOL.out; unfold maxLen; omega) ?_; intro v9 w9 o9 b9 g9; have xA := Ext.alloc wb (.cells #[.int .i64 y, .bool sx, .slice ax lx mx, .slice ay ly my] 84); have RO9 := Lib.hid ((hRt6.out.ext xA).grow g9 neO); have DO9 := Lib.hid ((DO.out.ext xA).grow g9 neO); have XW := Below.trans x6 b9; rw [HS2.out] at o9; obtain ⟨a11, k11, rfl, -, -⟩ := o9.rd.shape; obtain ⟨_, _, _, _, n0, n1, n2, n3, i0, i1, i2, i3⟩ := RO9.out.c4)
            go_roundw
            case rel => exact ⟨j + 1, a11, k11, by go_num, by omega, putL_below hBO3 [_] 0 XW, by
              rw [HSN.out]
              exact DO9.out.set0 RO9.out (by decide) _, RO9.out.set0 _, by
              rw [HSN.out]
              exact o9.putT RO9.out (by decide) 0 [_] (fun v a h => h.putT RO9.out (by decide) 0 [_])⟩
            case measure => simp [intOf] <;> omega
        · obtain rfl : j = la.length := by omega
          have hd : decide ((la.length : Int) < (la.length : Int)) = false := decide_eq_false (by omega)
          rw [List.take_length] at hC hO
          obtain ⟨ol, hol⟩ : ∃ ol, rst la x = ol := ⟨_, rfl⟩
          rw [hol] at hC hO ZRS M1 HSUB
          clear hol
          have RX : Hid (RdX wr (.agg #[.slice ao ol.length ko, .bool s, .slice b m d, .slice b' m' d']) ol ca) := ⟨_, _, _, _, rfl, hO.out.rd, HRC7.out.ext hx⟩
          obtain ⟨w9, hw9⟩ : ∃ w0 : World, w0 = wr := ⟨_, rfl⟩
          subst hw9
          have E1 := Lib.hid (D1.out.ext hx)
          have E2 := Lib.hid (D2.out.ext hx)
          have E3 := Lib.hid (CN.out.ext hx)
          have E7 := Lib.hid (D7.out.ext hx)
          have b09 := Ext.trans b07 hx
          have b49 := Ext.trans b47 hx
          have HQ9 := Lib.hid (HQ7.out.ext hx)
          clear HQ7 D1 D2 D6 D7 CN
          go_upto_region 10 with (fail)
          have b10 := drew_ext w9
          have XE := b10
          refine wp_region_noPanic ?_
          refine wp_region_held_drew (S := fun w' => (w'.cell? ⟨w.heap.size, 0, none⟩ = some (.slice aa m0 ka) ∧ w'.cell? ⟨w.heap.size, 1, none⟩ = some (.bool g0) ∧ w'.cell? ⟨w.heap.size, 2, none⟩ = some (t1) ∧ w'.cell? ⟨w.heap.size, 3, none⟩ = some (t2)) ∧ (w'.cell? ⟨w.heap.size + 1, 0, none⟩ = some (.slice ab m1 kb) ∧ w'.cell? ⟨w.heap.size + 1, 1, none⟩ = some (.bool g1) ∧ w'.cell? ⟨w.heap.size + 1, 2, none⟩ = some (t4) ∧ w'.cell? ⟨w.heap.size + 1, 3, none⟩ = some (t5)) ∧ (w'.cell? ⟨BO, 0, none⟩ = some (.slice ao ol.length ko) ∧ w'.cell? ⟨BO, 1, none⟩ = some (.bool s) ∧ w'.cell? ⟨BO, 2, none⟩ = some (.slice b m d) ∧ w'.cell? ⟨BO, 3, none⟩ = some (.slice b' m' d')) ∧ (w'.cell? ⟨BC, 0, none⟩ = some (.bool s7) ∧ w'.cell? ⟨BC, 1, none⟩ = some (.slice a7 l7 c7) ∧ w'.cell? ⟨BC, 2, none⟩ = some (.slice a6 l6 c6)) ∧ (w'.cell? ⟨B5, 0, none⟩ = some (y0) ∧ w'.cell? ⟨B5, 1, none⟩ = some (y1) ∧ w'.cell? ⟨B5, 2, none⟩ = some (y2) ∧ w'.cell? ⟨B5, 3, none⟩ = some (y3))) (by kernel_rfl) (⟨(E1.out.ext XE).c4, (E2.out.ext XE).c4, (hC.out.ext XE).c4, (E3.out.ext XE).c3, (E7.out.ext XE).c4⟩) (fun hHeld => ?_)
          refine wpAnyH_ready (rs := [0]) (by kernel_rfl) (by simp) ?_
          refine AllReadyH.cons (o := _) rfl (fun K hK => ?_) AllReadyH.nil
          go_simp
          go_at_call 36; refine (awake08).mono ?_; rintro e w11 ⟨_, rfl, b11, rfl⟩; (first | have XE := Ext.trans XE b11 | have XE := Ext.trans (Ext.trans XE (Ext.alloc _ _)) b11)
          go_wp2_with fail
          refine hK.out _ _ (⟨(E1.out.ext XE).c4, (E2.out.ext XE).c4, (hC.out.ext XE).c4, (E3.out.ext XE).c3, (E7.out.ext XE).c4⟩) (fun hHeld => ?_)
          clear hK K
          try simp only [Act.put, List.getElem_toArray, List.getElem_cons_succ, List.getElem_cons_zero, List.setIfInBounds_toArray, List.set_cons_zero, List.set_cons_succ]
          refine wpAnyH_take (i := 1) (v := ?_) rfl (by kernel_rfl) (by kernel_rfl) (by kernel_rfl) (fun _ _ _ h => h) (Or.inl ⟨by rfl, fun w0 hSw => ?_⟩) hHeld ?_
          rotate_left
          · (try dsimp only at hSw)
            go_simp
            try with_reducible rfl
          simp only [Act.put, List.getElem_toArray, List.getElem_cons_succ, List.getElem_cons_zero, List.setIfInBounds_toArray, List.set_cons_zero, List.set_cons_succ]
          refine wpAnyH_take (i := 2) (v := ?_) rfl (by kernel_rfl) (by kernel_rfl) (by kernel_rfl) (fun _ _ _ h => h) (Or.inl ⟨by rfl, fun w0 hSw => ?_⟩) hHeld ?_
          rotate_left
          · (try dsimp only at hSw)
            go_simp
            try with_reducible rfl
          simp only [Act.put, List.getElem_toArray, List.getElem_cons_succ, List.getElem_cons_zero, List.setIfInBounds_toArray, List.set_cons_zero, List.set_cons_succ]
          refine wpAnyH_take (i := 4) (v := ?_) rfl (by kernel_rfl) (by kernel_rfl) (by kernel_rfl) (fun _ _ _ h => h) (Or.inl ⟨by rfl, fun w0 hSw => ?_⟩) hHeld ?_
          rotate_left
          · (try dsimp only at hSw)
            go_simp
            try with_reducible rfl
          simp only [Act.put, List.getElem_toArray, List.getElem_cons_succ, List.getElem_cons_zero, List.setIfInBounds_toArray, List.set_cons_zero, List.set_cons_succ]
          refine wpAnyH_take (i := 5) (v := ?_) rfl (by kernel_rfl) (by kernel_rfl) (by kernel_rfl) (fun _ _ _ h => h) (Or.inl ⟨by rfl, fun w0 hSw => ?_⟩) hHeld ?_
          rotate_left
          · (try dsimp only at hSw)
            go_simp
            try with_reducible rfl
          simp only [Act.put, List.getElem_toArray, List.getElem_cons_succ, List.getElem_cons_zero, List.setIfInBounds_toArray, List.set_cons_zero, List.set_cons_succ]
          refine wpAnyH_take (i := 10) (v := ?_) rfl (by kernel_rfl) (by kernel_rfl) (by kernel_rfl) (fun _ _ _ h => h) (Or.inl ⟨by rfl, fun w0 hSw => ?_⟩) hHeld ?_
          rotate_left
          · (try dsimp only at hSw)
            go_simp
            try with_reducible rfl
          simp only [Act.put, List.getElem_toArray, List.getElem_cons_succ, List.getElem_cons_zero, List.setIfInBounds_toArray, List.set_cons_zero, List.set_cons_succ]
          refine wpAnyH_take (i := 12) (v := ?_) rfl (by kernel_rfl) (by kernel_rfl) (by kernel_rfl) (fun _ _ _ h => h) (Or.inl ⟨by rfl, fun w0 hSw => ?_⟩) hHeld ?_
          rotate_left
          · (try dsimp only at hSw)
            go_simp
            try with_reducible rfl
          simp only [Act.put, List.getElem_toArray, List.getElem_cons_succ, List.getElem_cons_zero, List.setIfInBounds_toArray, List.set_cons_zero, List.set_cons_succ]
          refine wpAnyH_take (i := 13) (v := ?_) rfl (by kernel_rfl) (by kernel_rfl) (by kernel_rfl) (fun _ _ _ h => h) (Or.inl ⟨by rfl, fun w0 hSw => ?_⟩) hHeld ?_
          rotate_left
          · (try dsimp only at hSw)
            go_simp
            try with_reducible rfl
          simp only [Act.put, List.getElem_toArray, List.getElem_cons_succ, List.getElem_cons_zero, List.setIfInBounds_toArray, List.set_cons_zero, List.set_cons_succ]
          refine wpAnyH_ready (rs := [3]) (by kernel_rfl) (by simp) ?_
          refine AllReadyH.cons (o := _) rfl (fun K hK => ?_) AllReadyH.nil
          go_simp
          go_at_call 31; refine (HEA.out _ _ (HV0.out.ext (Ext.trans b09 XE))).mono ?_; rintro e w12 ⟨v12, rfl, b12, o12⟩; have O12 := Lib.hid o12; clear o12; (first | have XE := Ext.trans XE b12 | have XE := Ext.trans (Ext.trans XE (Ext.alloc _ _)) b12)
          go_wp2_with fail
          refine hK.out _ _ (⟨(E1.out.ext XE).c4, (E2.out.ext XE).c4, (hC.out.ext XE).c4, (E3.out.ext XE).c3, (E7.out.ext XE).c4⟩) (fun hHeld => ?_)
          clear hK K
          try simp only [Act.put, List.getElem_toArray, List.getElem_cons_succ, List.getElem_cons_zero, List.setIfInBounds_toArray, List.set_cons_zero, List.set_cons_succ]
          refine wpAnyH_ready (rs := [6]) (by kernel_rfl) (by simp) ?_
          refine AllReadyH.cons (o := _) rfl (fun K hK => ?_) AllReadyH.nil
          go_simp
          go_at_call 31; refine (HEB.out _ _ (HV1.out.ext (Ext.trans b09 XE))).mono ?_; rintro e w13 ⟨v13, rfl, b13, o13⟩; have O13 := Lib.hid o13; clear o13; (first | have XE := Ext.trans XE b13 | have XE := Ext.trans (Ext.trans XE (Ext.alloc _ _)) b13)
          go_wp2_with fail
          refine hK.out _ _ (⟨(E1.out.ext XE).c4, (E2.out.ext XE).c4, (hC.out.ext XE).c4, (E3.out.ext XE).c3, (E7.out.ext XE).c4⟩) (fun hHeld => ?_)
          clear hK K
          try simp only [Act.put, List.getElem_toArray, List.getElem_cons_succ, List.getElem_cons_zero, List.setIfInBounds_toArray, List.set_cons_zero, List.set_cons_succ]
          refine wpAnyH_ready (rs := [7]) (by kernel_rfl) (by simp) ?_
          refine AllReadyH.cons (o := _) rfl (fun K hK => ?_) AllReadyH.nil
          go_simp
          go_at_call 45; refine (HSUB.out _ _ _ (O12.out.rd.ext b13) O13.out.rd).mono ?_; rintro e w14 ⟨v14, rfl, b14, o14⟩; have O14 := Lib.hid o14; clear o14; (first | have XE := Ext.trans XE b14 | have XE := Ext.trans (Ext.trans XE (Ext.alloc _ _)) b14)
          go_wp2_with fail
          refine hK.out _ _ (⟨(E1.out.ext XE).c4, (E2.out.ext XE).c4, (hC.out.ext XE).c4, (E3.out.ext XE).c3, (E7.out.ext XE).c4⟩) (fun hHeld => ?_)
          clear hK K
          try simp only [Act.put, List.getElem_toArray, List.getElem_cons_succ, List.getElem_cons_zero, List.setIfInBounds_toArray, List.set_cons_zero, List.set_cons_succ]
          refine wpAnyH_ready (rs := [8]) (by kernel_rfl) (by simp) ?_
          refine AllReadyH.cons (o := _) rfl (fun K hK => ?_) AllReadyH.nil
          go_simp
          go_at_call 33; refine (rep_told O14.out).mono ?_; rintro e w15 ⟨v15, rfl, b15, o15⟩; have O15 := Lib.hid o15; clear o15; (first | have XE := Ext.trans XE b15 | have XE := Ext.trans (Ext.trans XE (Ext.alloc _ _)) b15)
          go_wp2_with fail
          refine hK.out _ _ (⟨(E1.out.ext XE).c4, (E2.out.ext XE).c4, (hC.out.ext XE).c4, (E3.out.ext XE).c3, (E7.out.ext XE).c4⟩) (fun hHeld => ?_)
          clear hK K
          try simp only [Act.put, List.getElem_toArray, List.getElem_cons_succ, List.getElem_cons_zero, List.setIfInBounds_toArray, List.set_cons_zero, List.set_cons_succ]
          refine wpAnyH_ready (rs := [9]) (by kernel_rfl) (by simp) ?_
          refine AllReadyH.cons (o := _) rfl (fun K hK => ?_) AllReadyH.nil
          go_simp
          go_at_call 41; refine (I1.out _).mono ?_; rintro e w16 ⟨v16, rfl, b16, o16⟩; have O16 := Lib.hid o16; clear o16; (first | have XE := Ext.trans XE b16 | have XE := Ext.trans (Ext.trans XE (Ext.alloc _ _)) b16)
          go_wp2_with fail
          refine hK.out _ _ (⟨(E1.out.ext XE).c4, (E2.out.ext XE).c4, (hC.out.ext XE).c4, (E3.out.ext XE).c3, (E7.out.ext XE).c4⟩) (fun hHeld => ?_)
          clear hK K
          try simp only [Act.put, List.getElem_toArray, List.getElem_cons_succ, List.getElem_cons_zero, List.setIfInBounds_toArray, List.set_cons_zero, List.set_cons_succ]
          refine wpAnyH_ready (rs := [11]) (by kernel_rfl) (by simp) ?_
          refine AllReadyH.cons (o := _) rfl (fun K hK => ?_) AllReadyH.nil
          go_simp
          go_at_call 33; refine (told8_ok (RX.out.ext XE) ZRS.out.okx).mono ?_; rintro e w17 ⟨v17, rfl, b17, o17⟩; have O17 := Lib.hid o17; clear o17; (first | have XE := Ext.trans XE b17 | have XE := Ext.trans (Ext.trans XE (Ext.alloc _ _)) b17)
          go_wp2_with fail
          refine hK.out _ _ (⟨(E1.out.ext XE).c4, (E2.out.ext XE).c4, (hC.out.ext XE).c4, (E3.out.ext XE).c3, (E7.out.ext XE).c4⟩) (fun hHeld => ?_)
          clear hK K
          try simp only [Act.put, List.getElem_toArray, List.getElem_cons_succ, List.getElem_cons_zero, List.setIfInBounds_toArray, List.set_cons_zero, List.set_cons_succ]
          refine wpAnyH_ready (rs := [14]) (by kernel_rfl) (by simp) ?_
          refine AllReadyH.cons (o := _) rfl (fun K hK => ?_) AllReadyH.nil
          go_simp
          go_at_call 33; refine (HTY.out _ (Ext.trans b49 XE)).mono ?_; rintro e w18 ⟨v18, rfl, b18, o18⟩; have O18 := Lib.hid o18; clear o18; (first | have XE := Ext.trans XE b18 | have XE := Ext.trans (Ext.trans XE (Ext.alloc _ _)) b18)
          go_wp2_with fail
          refine hK.out _ _ (⟨(E1.out.ext XE).c4, (E2.out.ext XE).c4, (hC.out.ext XE).c4, (E3.out.ext XE).c3, (E7.out.ext XE).c4⟩) (fun hHeld => ?_)
          clear hK K
          try simp only [Act.put, List.getElem_toArray, List.getElem_cons_succ, List.getElem_cons_zero, List.setIfInBounds_toArray, List.set_cons_zero, List.set_cons_succ]
          refine wpAnyH_ready (rs := [15]) (by kernel_rfl) (by simp) ?_
          refine AllReadyH.cons (o := _) rfl (fun K hK => ?_) AllReadyH.nil
          go_simp
          go_at_call 39; refine (rep_means (O15.out.ext (Ext.trans b16 (Ext.trans b17 b18))) (O16.out.ext (Ext.trans b17 b18)) (O17.out.ext b18) (HQ9.out.ext XE) O18.out Z1.out ZRS.out.okx ZX.out ZB.out.okx M1.out.1 M1.out.2).mono ?_; rintro e w19 ⟨_, rfl, b19, rfl⟩; (first | have XE := Ext.trans XE b19 | have XE := Ext.trans (Ext.trans XE (Ext.alloc _ _)) b19)
          go_wp2_with fail
          refine hK.out _ _ (⟨(E1.out.ext XE).c4, (E2.out.ext XE).c4, (hC.out.ext XE).c4, (E3.out.ext XE).c3, (E7.out.ext XE).c4⟩) (fun hHeld => ?_)
          clear hK K
          try simp only [Act.put, List.getElem_toArray, List.getElem_cons_succ, List.getElem_cons_zero, List.setIfInBounds_toArray, List.set_cons_zero, List.set_cons_succ]
          refine wpAnyH_take (i := 16) (v := ?_) rfl (by kernel_rfl) (by kernel_rfl) (by kernel_rfl) (fun _ _ _ h => h) (Or.inl ⟨by rfl, fun w0 hSw => ?_⟩) hHeld ?_
          rotate_left
          · (try dsimp only at hSw)
            go_simp
            try with_reducible rfl
          simp only [Act.put, List.getElem_toArray, List.getElem_cons_succ, List.getElem_cons_zero, List.setIfInBounds_toArray, List.set_cons_zero, List.set_cons_succ]
          refine wpAnyH_take (i := 17) (v := ?_) rfl (by kernel_rfl) (by kernel_rfl) (by kernel_rfl) (fun _ _ _ h => h) (Or.inl ⟨by rfl, fun w0 hSw => ?_⟩) hHeld ?_
          rotate_left
          · (try dsimp only at hSw)
            go_simp
            try with_reducible rfl
          simp only [Act.put, List.getElem_toArray, List.getElem_cons_succ, List.getElem_cons_zero, List.setIfInBounds_toArray, List.set_cons_zero, List.set_cons_succ]
          refine wpAnyH_done (by kernel_rfl) ?_ _
          refine NoPanic.normal ?_
          go_wp2_with fail
          exact hR.out _ _ (Gives.mk (Ext.trans b09 XE) rfl)
theorem own : ownKnob Try.prog.godebug = none := by kernel_rfl
theorem laidOut : laidOutB Try.prog = true := by kernel_rfl

set_option maxRecDepth 100000 in
theorem contract (H : Type) (enc : TypeId × Value → H) (W : World) (base : Nat) (args : Array Value) (ds gs : List (DataW H)) (before : List MemPlace)
    (hval : ∀ (j : Nat) t v, Try.f8.params[j]? = some t → args[j]? = some v → Value.okWide Try.prog W .any base t v)
    (hW : DataW.Whole enc Try.prog Try.f8.params.toList Rows.linSubstsSpec.vars false W args.toList ds gs before) (hk : Rows.uptoSmall H (ds ++ gs) = true) :
    Calls Try.prog 8 args W fun e W' => ∃ v, e = .returned v ∧ Rows.linSubstsSpec.post enc Try.prog Try.f8 false true false false W args v W' := by
  have hW' := hW
  obtain ⟨p, q, hA0, hV, rfl, hfz, hnd⟩ := hW
  have hA : DataW.TrodAll enc Try.prog W 0 (fun _ => true) true Try.f8.params.toList args.toList ds p := hA0
  rw [Try.params8] at hA hval
  obtain ⟨v0, vs0, d0, ds0, p0, q0, hargs, rfl, rfl, h0, r0⟩ := trodAll_cons hA
  obtain ⟨v1, vs1, d1, ds1, p1, q1, rfl, rfl, rfl, h1, r1⟩ := trodAll_cons r0
  obtain ⟨v2, vs2, d2, ds2, p2, q2, rfl, rfl, rfl, h2, r2⟩ := trodAll_cons r1
  obtain ⟨rfl, rfl, rfl⟩ := trodAll_nil r2
  obtain rfl : args = #[v0, v1, v2] := by cases args; simp_all
  obtain ⟨rfl, rfl⟩ := trodVars_none hV
  have hb := bulk_small hk
  simp only [List.append_nil, bulk_cons, bulk_nil] at hb
  have k0 := h0
  have lt0 : ∀ x ∈ p0, x.block < W.heap.size := by obtain ⟨m, hm⟩ := k0; exact DataW.trod_lt m _ _ _ hm
  obtain ⟨l0, n0, rd0, bd0, bn0, len0⟩ := open_E (hval 0 60 v0 rfl rfl) h0
  have k1 := h1
  have lt1 : ∀ x ∈ p1, x.block < W.heap.size := by obtain ⟨m, hm⟩ := k1; exact DataW.trod_lt m _ _ _ hm
  obtain ⟨l1, n1, rd1, bd1, bn1, len1⟩ := open_E (hval 1 60 v1 rfl rfl) h1
  obtain ⟨a2, rfl, rfl, rfl, wf2⟩ := open_int Try.underlying3 (hval 2 3 v2 rfl rfl) h2
  clear hA0
  refine (walk rd0 (fun p hp => by have := bd0 p hp; omega) (by omega) (by omega) rd1 (fun p hp => by have := bd1 p hp; omega) (by omega) (by omega) (wf_int wf2)).mono fun e W' ⟨v, he, bel, hv⟩ => ?_
  subst he hv
  exact ⟨_, rfl, _, _, _, [], _, [], hW', trodAll_mk1 (shut_bool Try.underlying4 _), (trodAll_cons_mk (Below.trod laidOut (by kernel_rfl) (of_decide_eq_true (by kernel_rfl)) k0 bel lt0) (trodAll_cons_mk (Below.trod laidOut (by kernel_rfl) (of_decide_eq_true (by kernel_rfl)) k1 bel lt1) (trodAll_cons_mk (shut_int Try.underlying3 wf2) trodAll_mk0))), rfl, bel.frame _, fun h => by cases h⟩

set_option maxRecDepth 100000 in
theorem lifted (os : Os) (started : os.Started) (H : Type) (enc : TypeId × Value → H) (F : Stop.Interp) :
    ReturnsInHanded {} Try.checked os 8 .any ((Rows.OpenSpec.upto Rows.linSubstsSpec).pre6 enc Try.prog Try.f8 Rows.linSubstsUptoRow.domain false) (((Rows.OpenSpec.upto Rows.linSubstsSpec).at F).post enc Try.prog Try.f8 false true false false) := by
  refine returnsInHanded_of_cond (C := Try.checked) (s := Rows.OpenSpec.upto Rows.linSubstsSpec) (k := Rows.uptoSmall) rfl own started (by kernel_rfl) Try.func8
    (OpenSpec.witness (enc := enc) (C := Try.checked) (s := Rows.OpenSpec.upto Rows.linSubstsSpec) (k := Rows.uptoSmall) rfl false ⟨#[], #[.agg #[.slice none 0 0, .bool false, .slice none 0 0, .slice none 0 0], .agg #[.slice none 0 0, .bool false, .slice none 0 0, .slice none 0 0], .int .i64 0], []⟩ 8 (by kernel_rfl) (by kernel_rfl) (by kernel_rfl)
      (x := ([.agg [.nil, .agg [.lit (.bool false), .nil, .nil]], .agg [.nil, .agg [.lit (.bool false), .nil, .nil]], .lit (.int .i64 0)], [], [])) (by kernel_rfl) rfl (by kernel_rfl)) ?_
  intro W base args ds gs before hval hW _ hk _
  exact contract H enc W base args ds gs before hval hW hk

theorem proved : Rows.LinSubstsUptoSaid :=
  OpenClaim.holds_of_cond 8 Try.f8 rfl rfl rfl rfl rfl rfl rfl ⟨rfl, rfl, rfl, rfl, rfl⟩ rfl rfl rfl rfl rfl (by kernel_rfl) Try.func8 (by kernel_rfl)
    (of_decide_eq_true (by kernel_rfl)) (by unfold Func.isWrapper; first | (rw [if_pos (by decide +kernel)]; kernel_rfl) | (rw [if_neg (by decide +kernel)]; exact ⟨rfl, rfl⟩))
    (fun os started H enc _ F => lifted os started H enc F)
#print axioms proved

end Go.Proofs.Ytnbbhpihlcglgaa.linSubsts
