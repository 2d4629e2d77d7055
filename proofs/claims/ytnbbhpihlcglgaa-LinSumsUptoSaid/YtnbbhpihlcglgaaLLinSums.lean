/- LinSums: sums, differences and multiples of expressions are exact and in form. Conditions: the arguments hold together at most 1048576 values (the second form, Upto). -/
import Derived.Test.YtnbbhpihlcglgaaFrameE
import Derived.Test.YtnbbhpihlcglgaaLinPlain
import Derived.Test.YtnbbhpihlcglgaaPLinReps
import Derived.Test.YtnbbhpihlcglgaaPAwake08
import Derived.Test.YtnbbhpihlcglgaaRef5All
namespace Go.Proofs.Ytnbbhpihlcglgaa.linSums
open Go.ChangeShapes Go.WideShapes Go.ChangeAt Go.RowKit Go.Att

set_option maxHeartbeats 100000000 in
set_option maxRecDepth 100000 in
set_option linter.unusedSimpArgs false in
theorem walk {w : World} {v0 v1 v2 : Value} {l0 l1 : List (Int × NN)} {n0 n1 : NN} {s2 : Bool} {x2 y2 : List Nat} (hv0 : RdNE w v0 l0 n0) (hb0 : ∀ p ∈ l0, bN p.2 ≤ 1048576) (hn0 : bN n0 ≤ 1048576) (_hl0 : l0.length ≤ 1048576)
    (hv1 : RdNE w v1 l1 n1) (hb1 : ∀ p ∈ l1, bN p.2 ≤ 1048576) (hn1 : bN n1 ≤ 1048576) (_hl1 : l1.length ≤ 1048576)
    (hv2 : RdN w v2 s2 x2 y2) (hx2 : x2.length ≤ 1048576) (hy2 : y2.length ≤ 1048576) :
    Calls Try.prog 5 #[v0, v1, v2] w (Gives w fun v' _ => v' = .bool true) := by
  refine via fun R hR => ?_
  unfold bN at hb0 hb1 hn0 hn1
  have ZA := Lib.hid (tL_sm hv0)
  have ZB := Lib.hid (tL_sm hv1)
  have ZR : Hid (Sz 8 (qOf s2 x2 y2)) := qN_sz (n := (s2, x2, y2)) hv2
  have HEA : Hid (∀ (w : World) (v : Value), RdNE w v l0 n0 → Calls Try.prog 31 #[v] w (Gives w fun v' w' => OwnX 0 w' v' (tL l0) (qN n0))) := fun w v h => expr8_sm h (fun t ht => by have := hb0 t ht; exact ⟨by omega, by omega⟩) ⟨by omega, by omega⟩
  have HEB : Hid (∀ (w : World) (v : Value), RdNE w v l1 n1 → Calls Try.prog 31 #[v] w (Gives w fun v' w' => OwnX 0 w' v' (tL l1) (qN n1))) := fun w v h => expr8_sm h (fun t ht => by have := hb1 t ht; exact ⟨by omega, by omega⟩) ⟨by omega, by omega⟩
  have HOF : Hid (∀ (w : World) (v : Value), RdN w v s2 x2 y2 → Calls Try.prog 18 #[v] w (Gives w fun v' w' => OwnQ 163 0 w' v' (qOf s2 x2 y2))) := fun w v h => (of8_any h (by omega) (by omega)).mono fun _ _ ⟨v, e, b, o⟩ => ⟨v, e, b, o.mono (Nat.zero_le _)⟩
  have HV0 := Lib.hid hv0
  have HV1 := Lib.hid hv1
  have HV2 := Lib.hid hv2
  obtain ⟨sl0, t1, t2, rfl, hr0, -⟩ := hv0
  obtain ⟨aa, ka, rfl, -, -⟩ := hr0.shape
  obtain ⟨sl1, t4, t5, rfl, hr1, -⟩ := hv1
  obtain ⟨ab, kb, rfl, -, -⟩ := hr1.shape
  obtain ⟨t7, t8, rfl, -, -⟩ := hv2
  clear hr0 hr1 hb0 hb1 hn0 hn1
  obtain ⟨g0, hg0⟩ : ∃ g0, n0.1 = g0 := ⟨_, rfl⟩
  obtain ⟨g1, hg1⟩ : ∃ g1, n1.1 = g1 := ⟨_, rfl⟩
  obtain ⟨m0, hm0⟩ : ∃ m0, l0.length = m0 := ⟨_, rfl⟩
  obtain ⟨m1, hm1⟩ : ∃ m1, l1.length = m1 := ⟨_, rfl⟩
  rw [hg0, hm0] at HV0 ⊢
  rw [hg1, hm1] at HV1 ⊢
  clear hg0 hg1 hm0 hm1
  generalize tL l0 = la at *
  generalize tL l1 = lb at *
  generalize qN n0 = ca at *
  generalize qN n1 = cb at *
  generalize qOf s2 x2 y2 = r at *
  have e1 : ((1 : Int) : Rat) = 1 := by decide +kernel
  have e2 : ((-1 : Int) : Rat) = -1 := by decide +kernel
  have e3 : ((0 : Int) : Rat) = 0 := by decide +kernel
  have M1 : Hid (ca + cb = ((1 : Int) : Rat) * ca + ((1 : Int) : Rat) * cb ∧ ∀ x, cf la x + cf lb x = ((1 : Int) : Rat) * cf la x + ((1 : Int) : Rat) * cf lb x) := ⟨by rw [e1, Rat.one_mul, Rat.one_mul], fun x => by rw [e1, Rat.one_mul, Rat.one_mul]⟩
  have M2 : Hid (ca - cb = ((1 : Int) : Rat) * ca + ((-1 : Int) : Rat) * cb ∧ ∀ x, cf la x - cf lb x = ((1 : Int) : Rat) * cf la x + ((-1 : Int) : Rat) * cf lb x) := ⟨by rw [e1, e2]; grind, fun x => by rw [e1, e2]; grind⟩
  have M3 : Hid (r * ca = r * ca + ((0 : Int) : Rat) * cb ∧ ∀ x, r * cf la x = r * cf la x + ((0 : Int) : Rat) * cf lb x) := ⟨by rw [e3, Rat.zero_mul, Rat.add_zero], fun x => by rw [e3, Rat.zero_mul, Rat.add_zero]⟩
  clear e1 e2 e3
  have I1 : Hid (∀ w, Calls Try.prog 41 #[.int .i64 1] w (Gives w fun v' w' => OwnP 4 0 w' v' ((1 : Int) : Rat))) := fun w => (r5int_any (by omega)).mono fun _ _ ⟨v, e, b, o⟩ => ⟨v, e, b, o.mono (Nat.zero_le _)⟩
  have I2 : Hid (∀ w, Calls Try.prog 41 #[.int .i64 (-1)] w (Gives w fun v' w' => OwnP 4 0 w' v' ((-1 : Int) : Rat))) := fun w => (r5int_any (by omega)).mono fun _ _ ⟨v, e, b, o⟩ => ⟨v, e, b, o.mono (Nat.zero_le _)⟩
  have I3 : Hid (∀ w, Calls Try.prog 41 #[.int .i64 0] w (Gives w fun v' w' => OwnP 4 0 w' v' ((0 : Int) : Rat))) := fun w => (r5int_any (by omega)).mono fun _ _ ⟨v, e, b, o⟩ => ⟨v, e, b, o.mono (Nat.zero_le _)⟩
  have Z1 : Hid (Sz 380 ((1 : Int) : Rat)) := (Sz.int 1 (by omega)).le (by decide)
  have Z2 : Hid (Sz 380 ((-1 : Int) : Rat)) := (Sz.int (-1) (by omega)).le (by decide)
  have Z3 : Hid (Sz 380 ((0 : Int) : Rat)) := (Sz.int 0 (by omega)).le (by decide)
  generalize ((1 : Int) : Rat) = q1 at *
  generalize ((-1 : Int) : Rat) = q2 at *
  generalize ((0 : Int) : Rat) = q3 at *
  obtain ⟨w1, hw1, b1, c1, c2, c3, -, -, -, -⟩ := bx3 w [.slice aa m0 ka, .bool g0, t1, t2] [.slice ab m1 kb, .bool g1, t4, t5] [.bool s2, t7, t8] 60 60 25
  have C1 := Lib.hid c1
  have C2 := Lib.hid c2
  have C3 := Lib.hid c3
  have HW := Lib.hid hw1
  have SZ1 : Hid (w.heap.size + 1 + 1 < w1.heap.size) := World.block_lt_of_cell? w1 _ c3.c3.1
  clear hw1 c1 c2 c3
  go_enter Try.func5, Try.ntmps5
  go_upto_region 1 with (fail)
  rw [← HW.out]
  clear HW
  go_cut [7, 8, 9] (fun s7 s8 s9 wx => ∃ (B6 B7 B8 : Nat) (x0 x1 x2 x3 y0 y1 y2 y3 z0 z1 z2 : Value), s7 = .pointer (some ⟨B6, 0, none⟩) ∧ s8 = .pointer (some ⟨B7, 0, none⟩) ∧ s9 = .pointer (some ⟨B8, 0, none⟩) ∧ Ext w1 wx ∧ Hid (Bx wx B6 [x0, x1, x2, x3]) ∧ Hid (Bx wx B7 [y0, y1, y2, y3]) ∧ Hid (Bx wx B8 [z0, z1, z2]) ∧ Hid (OwnX 0 wx (.agg #[x0, x1, x2, x3]) la ca) ∧ Hid (OwnX 0 wx (.agg #[y0, y1, y2, y3]) lb cb) ∧ Hid (OwnQ 163 0 wx (.agg #[z0, z1, z2]) r))
  case first =>
    as_aux_lemma =>
      refine wp_region_noPanic ?_
      refine wp_region_held_drew (S := fun w' => (w'.cell? ⟨w.heap.size, 0, none⟩ = some (.slice aa m0 ka) ∧ w'.cell? ⟨w.heap.size, 1, none⟩ = some (.bool g0) ∧ w'.cell? ⟨w.heap.size, 2, none⟩ = some (t1) ∧ w'.cell? ⟨w.heap.size, 3, none⟩ = some (t2)) ∧ (w'.cell? ⟨w.heap.size + 1, 0, none⟩ = some (.slice ab m1 kb) ∧ w'.cell? ⟨w.heap.size + 1, 1, none⟩ = some (.bool g1) ∧ w'.cell? ⟨w.heap.size + 1, 2, none⟩ = some (t4) ∧ w'.cell? ⟨w.heap.size + 1, 3, none⟩ = some (t5)) ∧ (w'.cell? ⟨w.heap.size + 1 + 1, 0, none⟩ = some (.bool s2) ∧ w'.cell? ⟨w.heap.size + 1 + 1, 1, none⟩ = some (t7) ∧ w'.cell? ⟨w.heap.size + 1 + 1, 2, none⟩ = some (t8))) (by kernel_rfl) (⟨(C1.out.ext (drew_ext w1)).c4, (C2.out.ext (drew_ext w1)).c4, (C3.out.ext (drew_ext w1)).c3⟩) (fun hHeld => ?_)
      refine wpAnyH_take (i := 0) (v := ?_) rfl (by kernel_rfl) (by kernel_rfl) (by kernel_rfl) (fun _ _ _ h => h) (Or.inl ⟨by rfl, fun w0 hSw => ?_⟩) hHeld ?_
      rotate_left
      · (try dsimp only at hSw)
        go_simp
        try with_reducible rfl
      simp only [Act.put, List.getElem_toArray, List.getElem_cons_succ, List.getElem_cons_zero, List.setIfInBounds_toArray, List.set_cons_zero, List.set_cons_succ]
      refine wpAnyH_take (i := 2) (v := ?_) rfl (by kernel_rfl) (by kernel_rfl) (by kernel_rfl) (fun _ _ _ h => h) (Or.inl ⟨by rfl, fun w0 hSw => ?_⟩) hHeld ?_
      rotate_left
      · (try dsimp only at hSw)
        go_simp
        try with_reducible rfl
      simp only [Act.put, List.getElem_toArray, List.getElem_cons_succ, List.getElem_cons_zero, List.setIfInBounds_toArray, List.set_cons_zero, List.set_cons_succ]
      refine wpAnyH_take (i := 4) (v := ?_) rfl (by kernel_rfl) (by kernel_rfl) (by kernel_rfl) (fun _ _ _ h => h) (Or.inl ⟨by rfl, fun w0 hSw => ?_⟩) hHeld ?_
      rotate_left
      · (try dsimp only at hSw)
        go_simp
        try with_reducible rfl
      simp only [Act.put, List.getElem_toArray, List.getElem_cons_succ, List.getElem_cons_zero, List.setIfInBounds_toArray, List.set_cons_zero, List.set_cons_succ]
      refine anyH_cap fun O Q9 AA hO hQ hA => ?_
      obtain ⟨SS, hSS⟩ : ∃ SS : World → Prop, Hid (SS = fun w' => (w'.cell? ⟨w.heap.size, 0, none⟩ = some (.slice aa m0 ka) ∧ w'.cell? ⟨w.heap.size, 1, none⟩ = some (.bool g0) ∧ w'.cell? ⟨w.heap.size, 2, none⟩ = some (t1) ∧ w'.cell? ⟨w.heap.size, 3, none⟩ = some (t2)) ∧ (w'.cell? ⟨w.heap.size + 1, 0, none⟩ = some (.slice ab m1 kb) ∧ w'.cell? ⟨w.heap.size + 1, 1, none⟩ = some (.bool g1) ∧ w'.cell? ⟨w.heap.size + 1, 2, none⟩ = some (t4) ∧ w'.cell? ⟨w.heap.size + 1, 3, none⟩ = some (t5)) ∧ (w'.cell? ⟨w.heap.size + 1 + 1, 0, none⟩ = some (.bool s2) ∧ w'.cell? ⟨w.heap.size + 1 + 1, 1, none⟩ = some (t7) ∧ w'.cell? ⟨w.heap.size + 1 + 1, 2, none⟩ = some (t8))) := ⟨_, rfl⟩
      have KP : Hid (∀ wv, Ext w1 wv → SS wv) := fun wv XE => by rw [hSS.out]; exact ⟨(C1.out.ext XE).c4, (C2.out.ext XE).c4, (C3.out.ext XE).c3⟩
      have L3_6_7_8 : ∀ (wv : World) (v1 v3 v5 : Value) (B6 B7 B8 : Nat), Hid (Ext w1 wv) → Hid (OwnX 0 wv v1 la ca) → Hid (OwnX 0 wv v3 lb cb) → Hid (OwnQ 163 0 wv v5 r) → Hid (Rt wv B6 4 63) → Hid (w1.heap.size ≤ B6) → Hid (Rt wv B7 4 63) → Hid (w1.heap.size ≤ B7) → Hid (Rt wv B8 3 32) → Hid (w1.heap.size ≤ B8) → Hid (B6 ≠ B7) → Hid (B6 ≠ B8) → Hid (B7 ≠ B8) → wpAnyH Try.prog .any O Q9 SS 3 #[true, true, true, true, true, true, true, true, true, false, false, false] ((((((AA.put (some 11) v1).put (some 13) v3).put (some 15) v5).put (some 7) (.pointer (some ⟨B6, 0, none⟩))).put (some 8) (.pointer (some ⟨B7, 0, none⟩))).put (some 9) (.pointer (some ⟨B8, 0, none⟩))) wv := by
        intro wv v1 v3 v5 B6 B7 B8 hX p1 p3 p5 r6 s6 r7 s7 r8 s8 ne6_7 ne6_8 ne7_8
        have hO1 := hO.out
        have hQ1 := hQ.out
        have hA1 := hA.out
        subst hO1
        subst hQ1
        subst hA1
        have XE := hX.out
        have hS1 := hSS.out
        subst hS1
        have hHeld : (fun w' => (w'.cell? ⟨w.heap.size, 0, none⟩ = some (.slice aa m0 ka) ∧ w'.cell? ⟨w.heap.size, 1, none⟩ = some (.bool g0) ∧ w'.cell? ⟨w.heap.size, 2, none⟩ = some (t1) ∧ w'.cell? ⟨w.heap.size, 3, none⟩ = some (t2)) ∧ (w'.cell? ⟨w.heap.size + 1, 0, none⟩ = some (.slice ab m1 kb) ∧ w'.cell? ⟨w.heap.size + 1, 1, none⟩ = some (.bool g1) ∧ w'.cell? ⟨w.heap.size + 1, 2, none⟩ = some (t4) ∧ w'.cell? ⟨w.heap.size + 1, 3, none⟩ = some (t5)) ∧ (w'.cell? ⟨w.heap.size + 1 + 1, 0, none⟩ = some (.bool s2) ∧ w'.cell? ⟨w.heap.size + 1 + 1, 1, none⟩ = some (t7) ∧ w'.cell? ⟨w.heap.size + 1 + 1, 2, none⟩ = some (t8))) wv := ⟨(C1.out.ext XE).c4, (C2.out.ext XE).c4, (C3.out.ext XE).c3⟩
        try simp only [Act.put, List.getElem_toArray, List.getElem_cons_succ, List.getElem_cons_zero, List.setIfInBounds_toArray, List.set_cons_zero, List.set_cons_succ]
        have k0_6 : w.heap.size ≠ B6 := by have h1 := s6.out; have hz0 := SZ1.out; omega
        have k1_6 : w.heap.size + 1 ≠ B6 := by have h1 := s6.out; have hz0 := SZ1.out; omega
        have k2_6 : w.heap.size + 1 + 1 ≠ B6 := by have h1 := s6.out; have hz0 := SZ1.out; omega
        have k0_7 : w.heap.size ≠ B7 := by have h1 := s7.out; have hz0 := SZ1.out; omega
        have k1_7 : w.heap.size + 1 ≠ B7 := by have h1 := s7.out; have hz0 := SZ1.out; omega
        have k2_7 : w.heap.size + 1 + 1 ≠ B7 := by have h1 := s7.out; have hz0 := SZ1.out; omega
        have k0_8 : w.heap.size ≠ B8 := by have h1 := s8.out; have hz0 := SZ1.out; omega
        have k1_8 : w.heap.size + 1 ≠ B8 := by have h1 := s8.out; have hz0 := SZ1.out; omega
        have k2_8 : w.heap.size + 1 + 1 ≠ B8 := by have h1 := s8.out; have hz0 := SZ1.out; omega
        have n6_7 := ne6_7.out
        have n7_6 := Ne.symm n6_7
        have n6_8 := ne6_8.out
        have n8_6 := Ne.symm n6_8
        have n7_8 := ne7_8.out
        have n8_7 := Ne.symm n7_8
        obtain ⟨f0, f1, f2, f3, f4, f5, f6, f7, f8, rfl, -, -, OA⟩ := p1.out.op
        obtain ⟨h0, h1, h2, h3, h4, h5, h6, h7, h8, rfl, -, -, OB⟩ := p3.out.op
        obtain ⟨o0, o1, o2, o3, o4, o5, o6, rfl, OC⟩ := p5.out.op
        obtain ⟨_, _, _, _, i6_0, i6_1, i6_2, i6_3, f6_0, f6_1, f6_2, f6_3⟩ := r6.out.c4
        refine wpAnyH_ready (rs := [9]) (by kernel_rfl) (by simp) ?_
        refine AllReadyH.cons (o := _) rfl (fun K hK => ?_) AllReadyH.nil
        go_simp
        refine hK.out _ _ (⟨(((((C1.out.ext XE).set1 k0_6 _ _).set1 k0_6 _ _).set1 k0_6 _ _).set1 k0_6 _ _).c4, (((((C2.out.ext XE).set1 k1_6 _ _).set1 k1_6 _ _).set1 k1_6 _ _).set1 k1_6 _ _).c4, (((((C3.out.ext XE).set1 k2_6 _ _).set1 k2_6 _ _).set1 k2_6 _ _).set1 k2_6 _ _).c3⟩) (fun hHeld => ?_)
        clear hK K
        try simp only [Act.put, List.getElem_toArray, List.getElem_cons_succ, List.getElem_cons_zero, List.setIfInBounds_toArray, List.set_cons_zero, List.set_cons_succ]
        clear hHeld
        refine gen_world (P := wpAnyH _ _ _ _ _ _ _ _) _ (fun Wg9 hWg9 => ?_)
        have CG9_0 : Bx Wg9 (w.heap.size) [.slice aa m0 ka, .bool g0, t1, t2] := by rw [hWg9]; exact (((((C1.out.ext XE).set1 k0_6 _ _).set1 k0_6 _ _).set1 k0_6 _ _).set1 k0_6 _ _)
        have CG9_1 : Bx Wg9 (w.heap.size + 1) [.slice ab m1 kb, .bool g1, t4, t5] := by rw [hWg9]; exact (((((C2.out.ext XE).set1 k1_6 _ _).set1 k1_6 _ _).set1 k1_6 _ _).set1 k1_6 _ _)
        have CG9_2 : Bx Wg9 (w.heap.size + 1 + 1) [.bool s2, t7, t8] := by rw [hWg9]; exact (((((C3.out.ext XE).set1 k2_6 _ _).set1 k2_6 _ _).set1 k2_6 _ _).set1 k2_6 _ _)
        have RG9_7 : Rt Wg9 B7 4 63 := by rw [hWg9]; exact ((((r7.out.set1 n7_6 _ _).set1 n7_6 _ _).set1 n7_6 _ _).set1 n7_6 _ _)
        have RG9_8 : Rt Wg9 B8 3 32 := by rw [hWg9]; exact ((((r8.out.set1 n8_6 _ _).set1 n8_6 _ _).set1 n8_6 _ _).set1 n8_6 _ _)
        have hHeld : (fun w' => (w'.cell? ⟨w.heap.size, 0, none⟩ = some (.slice aa m0 ka) ∧ w'.cell? ⟨w.heap.size, 1, none⟩ = some (.bool g0) ∧ w'.cell? ⟨w.heap.size, 2, none⟩ = some (t1) ∧ w'.cell? ⟨w.heap.size, 3, none⟩ = some (t2)) ∧ (w'.cell? ⟨w.heap.size + 1, 0, none⟩ = some (.slice ab m1 kb) ∧ w'.cell? ⟨w.heap.size + 1, 1, none⟩ = some (.bool g1) ∧ w'.cell? ⟨w.heap.size + 1, 2, none⟩ = some (t4) ∧ w'.cell? ⟨w.heap.size + 1, 3, none⟩ = some (t5)) ∧ (w'.cell? ⟨w.heap.size + 1 + 1, 0, none⟩ = some (.bool s2) ∧ w'.cell? ⟨w.heap.size + 1 + 1, 1, none⟩ = some (t7) ∧ w'.cell? ⟨w.heap.size + 1 + 1, 2, none⟩ = some (t8))) Wg9 := ⟨CG9_0.c4, CG9_1.c4, CG9_2.c3⟩
        have HWg9 := Lib.hid hWg9
        clear hWg9
        clear i6_0 f6_0 i6_1 f6_1 i6_2 f6_2 i6_3 f6_3
        obtain ⟨_, _, _, _, i7_0, i7_1, i7_2, i7_3, f7_0, f7_1, f7_2, f7_3⟩ := RG9_7.c4
        refine wpAnyH_ready (rs := [10]) (by kernel_rfl) (by simp) ?_
        refine AllReadyH.cons (o := _) rfl (fun K hK => ?_) AllReadyH.nil
        go_simp
        refine hK.out _ _ (⟨((((CG9_0.set1 k0_7 _ _).set1 k0_7 _ _).set1 k0_7 _ _).set1 k0_7 _ _).c4, ((((CG9_1.set1 k1_7 _ _).set1 k1_7 _ _).set1 k1_7 _ _).set1 k1_7 _ _).c4, ((((CG9_2.set1 k2_7 _ _).set1 k2_7 _ _).set1 k2_7 _ _).set1 k2_7 _ _).c3⟩) (fun hHeld => ?_)
        clear hK K
        try simp only [Act.put, List.getElem_toArray, List.getElem_cons_succ, List.getElem_cons_zero, List.setIfInBounds_toArray, List.set_cons_zero, List.set_cons_succ]
        clear hHeld
        refine gen_world (P := wpAnyH _ _ _ _ _ _ _ _) _ (fun Wg10 hWg10 => ?_)
        have CG10_0 : Bx Wg10 (w.heap.size) [.slice aa m0 ka, .bool g0, t1, t2] := by rw [hWg10]; exact ((((CG9_0.set1 k0_7 _ _).set1 k0_7 _ _).set1 k0_7 _ _).set1 k0_7 _ _)
        have CG10_1 : Bx Wg10 (w.heap.size + 1) [.slice ab m1 kb, .bool g1, t4, t5] := by rw [hWg10]; exact ((((CG9_1.set1 k1_7 _ _).set1 k1_7 _ _).set1 k1_7 _ _).set1 k1_7 _ _)
        have CG10_2 : Bx Wg10 (w.heap.size + 1 + 1) [.bool s2, t7, t8] := by rw [hWg10]; exact ((((CG9_2.set1 k2_7 _ _).set1 k2_7 _ _).set1 k2_7 _ _).set1 k2_7 _ _)
        have RG10_8 : Rt Wg10 B8 3 32 := by rw [hWg10]; exact ((((RG9_8.set1 n8_7 _ _).set1 n8_7 _ _).set1 n8_7 _ _).set1 n8_7 _ _)
        have hHeld : (fun w' => (w'.cell? ⟨w.heap.size, 0, none⟩ = some (.slice aa m0 ka) ∧ w'.cell? ⟨w.heap.size, 1, none⟩ = some (.bool g0) ∧ w'.cell? ⟨w.heap.size, 2, none⟩ = some (t1) ∧ w'.cell? ⟨w.heap.size, 3, none⟩ = some (t2)) ∧ (w'.cell? ⟨w.heap.size + 1, 0, none⟩ = some (.slice ab m1 kb) ∧ w'.cell? ⟨w.heap.size + 1, 1, none⟩ = some (.bool g1) ∧ w'.cell? ⟨w.heap.size + 1, 2, none⟩ = some (t4) ∧ w'.cell? ⟨w.heap.size + 1, 3, none⟩ = some (t5)) ∧ (w'.cell? ⟨w.heap.size + 1 + 1, 0, none⟩ = some (.bool s2) ∧ w'.cell? ⟨w.heap.size + 1 + 1, 1, none⟩ = some (t7) ∧ w'.cell? ⟨w.heap.size + 1 + 1, 2, none⟩ = some (t8))) Wg10 := ⟨CG10_0.c4, CG10_1.c4, CG10_2.c3⟩
        have HWg10 := Lib.hid hWg10
        clear hWg10
        clear i7_0 f7_0 i7_1 f7_1 i7_2 f7_2 i7_3 f7_3
        obtain ⟨_, _, _, i8_0, i8_1, i8_2, f8_0, f8_1, f8_2⟩ := RG10_8.rm.c3
        refine wpAnyH_ready (rs := [11]) (by kernel_rfl) (by simp) ?_
        refine AllReadyH.cons (o := _) rfl (fun K hK => ?_) AllReadyH.nil
        go_simp
        refine hK.out _ _ (⟨(((CG10_0.set1 k0_8 _ _).set1 k0_8 _ _).set1 k0_8 _ _).c4, (((CG10_1.set1 k1_8 _ _).set1 k1_8 _ _).set1 k1_8 _ _).c4, (((CG10_2.set1 k2_8 _ _).set1 k2_8 _ _).set1 k2_8 _ _).c3⟩) (fun hHeld => ?_)
        clear hK K
        try simp only [Act.put, List.getElem_toArray, List.getElem_cons_succ, List.getElem_cons_zero, List.setIfInBounds_toArray, List.set_cons_zero, List.set_cons_succ]
        refine wpAnyH_done (by kernel_rfl) ?_ _
        refine NoPanic.normal ?_
        rw [HWg10.out]
        rw [HWg9.out]
        go_wp2_with fail
        go_meet
        obtain ⟨W, hW, hM1, hM2, hM3, hM4, hM5, hM6, hM7⟩ := meet443 r6.out r7.out r8.out ne6_7.out ne6_8.out ne7_8.out hX.out s6.out s7.out s8.out (by decide) (by decide) (by decide) (by decide) OA.out OB.out OC.out
        rw [← hW]
        exact ⟨B6, B7, B8, _, _, _, _, _, _, _, _, _, _, _, rfl, rfl, rfl, hM1, hM2, hM3, hM4, hM5, hM6, hM7⟩
      have L2_6_7_8 : ∀ (wv : World) (v1 v3 : Value) (B6 B7 B8 : Nat), Hid (Ext w1 wv) → Hid (OwnX 0 wv v1 la ca) → Hid (OwnX 0 wv v3 lb cb) → Hid (Rt wv B6 4 63) → Hid (w1.heap.size ≤ B6) → Hid (Rt wv B7 4 63) → Hid (w1.heap.size ≤ B7) → Hid (Rt wv B8 3 32) → Hid (w1.heap.size ≤ B8) → Hid (B6 ≠ B7) → Hid (B6 ≠ B8) → Hid (B7 ≠ B8) → wpAnyH Try.prog .any O Q9 SS 4 #[true, true, true, true, true, false, true, true, true, false, false, false] (((((AA.put (some 11) v1).put (some 13) v3).put (some 7) (.pointer (some ⟨B6, 0, none⟩))).put (some 8) (.pointer (some ⟨B7, 0, none⟩))).put (some 9) (.pointer (some ⟨B8, 0, none⟩))) wv := by
        intro wv v1 v3 B6 B7 B8 hX p1 p3 r6 s6 r7 s7 r8 s8 ne6_7 ne6_8 ne7_8
        have hO1 := hO.out
        have hQ1 := hQ.out
        have hA1 := hA.out
        subst hO1
        subst hQ1
        subst hA1
        have XE := hX.out
        try simp only [Act.put, List.getElem_toArray, List.getElem_cons_succ, List.getElem_cons_zero, List.setIfInBounds_toArray, List.set_cons_zero, List.set_cons_succ]
        refine wpAnyH_ready (rs := [5]) (by kernel_rfl) (by simp) ?_
        refine AllReadyH.cons (o := _) rfl (fun K hK => ?_) AllReadyH.nil
        go_simp
        go_at_call 18
        refine (HOF.out _ _ (HV2.out.ext (Ext.trans b1 XE))).mono ?_
        rintro e wn ⟨vn, rfl, bn, on⟩
        go_wp2_with fail
        refine hK.out _ _ (KP.out _ (Ext.trans XE bn)) (fun _ => ?_)
        clear hK K
        try simp only [Act.put, List.getElem_toArray, List.getElem_cons_succ, List.getElem_cons_zero, List.setIfInBounds_toArray, List.set_cons_zero, List.set_cons_succ]
        exact wpAnyH_at (L3_6_7_8 wn v1 v3 vn B6 B7 B8 (Ext.trans XE bn) (p1.out.ext bn) (p3.out.ext bn) (on) (r6.out.ext bn) s6 (r7.out.ext bn) s7 (r8.out.ext bn) s8 ne6_7 ne6_8 ne7_8) (by kernel_rfl) (by kernel_rfl) (by kernel_rfl)
      have L3_7_8 : ∀ (wv : World) (v1 v3 v5 : Value) (B7 B8 : Nat), Hid (Ext w1 wv) → Hid (OwnX 0 wv v1 la ca) → Hid (OwnX 0 wv v3 lb cb) → Hid (OwnQ 163 0 wv v5 r) → Hid (Rt wv B7 4 63) → Hid (w1.heap.size ≤ B7) → Hid (Rt wv B8 3 32) → Hid (w1.heap.size ≤ B8) → Hid (B7 ≠ B8) → wpAnyH Try.prog .any O Q9 SS 4 #[true, true, true, true, true, true, false, true, true, false, false, false] (((((AA.put (some 11) v1).put (some 13) v3).put (some 15) v5).put (some 8) (.pointer (some ⟨B7, 0, none⟩))).put (some 9) (.pointer (some ⟨B8, 0, none⟩))) wv := by
        intro wv v1 v3 v5 B7 B8 hX p1 p3 p5 r7 s7 r8 s8 ne7_8
        have hO1 := hO.out
        have hQ1 := hQ.out
        have hA1 := hA.out
        subst hO1
        subst hQ1
        subst hA1
        have XE := hX.out
        try simp only [Act.put, List.getElem_toArray, List.getElem_cons_succ, List.getElem_cons_zero, List.setIfInBounds_toArray, List.set_cons_zero, List.set_cons_succ]
        refine wpAnyH_ready (rs := [6]) (by kernel_rfl) (by simp) ?_
        refine AllReadyH.cons (o := _) rfl (fun K hK => ?_) AllReadyH.nil
        go_simp
        refine hK.out _ _ (KP.out _ (Ext.trans XE (Ext.alloc _ _))) (fun _ => ?_)
        clear hK K
        try simp only [Act.put, List.getElem_toArray, List.getElem_cons_succ, List.getElem_cons_zero, List.setIfInBounds_toArray, List.set_cons_zero, List.set_cons_succ]
        exact wpAnyH_at (L3_6_7_8 _ v1 v3 v5 wv.heap.size B7 B8 (Ext.trans XE (Ext.alloc wv (.cells [.slice none 0 0, .bool false, .slice none 0 0, .slice none 0 0].toArray 63))) (p1.out.ext (Ext.alloc wv (.cells [.slice none 0 0, .bool false, .slice none 0 0, .slice none 0 0].toArray 63))) (p3.out.ext (Ext.alloc wv (.cells [.slice none 0 0, .bool false, .slice none 0 0, .slice none 0 0].toArray 63))) (p5.out.ext (Ext.alloc wv (.cells [.slice none 0 0, .bool false, .slice none 0 0, .slice none 0 0].toArray 63))) (Rt.new wv [.slice none 0 0, .bool false, .slice none 0 0, .slice none 0 0] 63) (Below.size XE) (r7.out.ext (Ext.alloc wv (.cells [.slice none 0 0, .bool false, .slice none 0 0, .slice none 0 0].toArray 63))) s7 (r8.out.ext (Ext.alloc wv (.cells [.slice none 0 0, .bool false, .slice none 0 0, .slice none 0 0].toArray 63))) s8 (Nat.ne_of_gt r7.out.lt) (Nat.ne_of_gt r8.out.lt) ne7_8) (by kernel_rfl) (by kernel_rfl) (by kernel_rfl)
      have L3_6_8 : ∀ (wv : World) (v1 v3 v5 : Value) (B6 B8 : Nat), Hid (Ext w1 wv) → Hid (OwnX 0 wv v1 la ca) → Hid (OwnX 0 wv v3 lb cb) → Hid (OwnQ 163 0 wv v5 r) → Hid (Rt wv B6 4 63) → Hid (w1.heap.size ≤ B6) → Hid (Rt wv B8 3 32) → Hid (w1.heap.size ≤ B8) → Hid (B6 ≠ B8) → wpAnyH Try.prog .any O Q9 SS 4 #[true, true, true, true, true, true, true, false, true, false, false, false] (((((AA.put (some 11) v1).put (some 13) v3).put (some 15) v5).put (some 7) (.pointer (some ⟨B6, 0, none⟩))).put (some 9) (.pointer (some ⟨B8, 0, none⟩))) wv := by
        intro wv v1 v3 v5 B6 B8 hX p1 p3 p5 r6 s6 r8 s8 ne6_8
        have hO1 := hO.out
        have hQ1 := hQ.out
        have hA1 := hA.out
        subst hO1
        subst hQ1
        subst hA1
        have XE := hX.out
        try simp only [Act.put, List.getElem_toArray, List.getElem_cons_succ, List.getElem_cons_zero, List.setIfInBounds_toArray, List.set_cons_zero, List.set_cons_succ]
        refine wpAnyH_ready (rs := [7]) (by kernel_rfl) (by simp) ?_
        refine AllReadyH.cons (o := _) rfl (fun K hK => ?_) AllReadyH.nil
        go_simp
        refine hK.out _ _ (KP.out _ (Ext.trans XE (Ext.alloc _ _))) (fun _ => ?_)
        clear hK K
        try simp only [Act.put, List.getElem_toArray, List.getElem_cons_succ, List.getElem_cons_zero, List.setIfInBounds_toArray, List.set_cons_zero, List.set_cons_succ]
        exact wpAnyH_at (L3_6_7_8 _ v1 v3 v5 B6 wv.heap.size B8 (Ext.trans XE (Ext.alloc wv (.cells [.slice none 0 0, .bool false, .slice none 0 0, .slice none 0 0].toArray 63))) (p1.out.ext (Ext.alloc wv (.cells [.slice none 0 0, .bool false, .slice none 0 0, .slice none 0 0].toArray 63))) (p3.out.ext (Ext.alloc wv (.cells [.slice none 0 0, .bool false, .slice none 0 0, .slice none 0 0].toArray 63))) (p5.out.ext (Ext.alloc wv (.cells [.slice none 0 0, .bool false, .slice none 0 0, .slice none 0 0].toArray 63))) (r6.out.ext (Ext.alloc wv (.cells [.slice none 0 0, .bool false, .slice none 0 0, .slice none 0 0].toArray 63))) s6 (Rt.new wv [.slice none 0 0, .bool false, .slice none 0 0, .slice none 0 0] 63) (Below.size XE) (r8.out.ext (Ext.alloc wv (.cells [.slice none 0 0, .bool false, .slice none 0 0, .slice none 0 0].toArray 63))) s8 (Nat.ne_of_lt r6.out.lt) ne6_8 (Nat.ne_of_gt r8.out.lt)) (by kernel_rfl) (by kernel_rfl) (by kernel_rfl)
      have L3_6_7 : ∀ (wv : World) (v1 v3 v5 : Value) (B6 B7 : Nat), Hid (Ext w1 wv) → Hid (OwnX 0 wv v1 la ca) → Hid (OwnX 0 wv v3 lb cb) → Hid (OwnQ 163 0 wv v5 r) → Hid (Rt wv B6 4 63) → Hid (w1.heap.size ≤ B6) → Hid (Rt wv B7 4 63) → Hid (w1.heap.size ≤ B7) → Hid (B6 ≠ B7) → wpAnyH Try.prog .any O Q9 SS 4 #[true, true, true, true, true, true, true, true, false, false, false, false] (((((AA.put (some 11) v1).put (some 13) v3).put (some 15) v5).put (some 7) (.pointer (some ⟨B6, 0, none⟩))).put (some 8) (.pointer (some ⟨B7, 0, none⟩))) wv := by
        intro wv v1 v3 v5 B6 B7 hX p1 p3 p5 r6 s6 r7 s7 ne6_7
        have hO1 := hO.out
        have hQ1 := hQ.out
        have hA1 := hA.out
        subst hO1
        subst hQ1
        subst hA1
        have XE := hX.out
        try simp only [Act.put, List.getElem_toArray, List.getElem_cons_succ, List.getElem_cons_zero, List.setIfInBounds_toArray, List.set_cons_zero, List.set_cons_succ]
        refine wpAnyH_ready (rs := [8]) (by kernel_rfl) (by simp) ?_
        refine AllReadyH.cons (o := _) rfl (fun K hK => ?_) AllReadyH.nil
        go_simp
        refine hK.out _ _ (KP.out _ (Ext.trans XE (Ext.alloc _ _))) (fun _ => ?_)
        clear hK K
        try simp only [Act.put, List.getElem_toArray, List.getElem_cons_succ, List.getElem_cons_zero, List.setIfInBounds_toArray, List.set_cons_zero, List.set_cons_succ]
        exact wpAnyH_at (L3_6_7_8 _ v1 v3 v5 B6 B7 wv.heap.size (Ext.trans XE (Ext.alloc wv (.cells [.bool false, .slice none 0 0, .slice none 0 0].toArray 32))) (p1.out.ext (Ext.alloc wv (.cells [.bool false, .slice none 0 0, .slice none 0 0].toArray 32))) (p3.out.ext (Ext.alloc wv (.cells [.bool false, .slice none 0 0, .slice none 0 0].toArray 32))) (p5.out.ext (Ext.alloc wv (.cells [.bool false, .slice none 0 0, .slice none 0 0].toArray 32))) (r6.out.ext (Ext.alloc wv (.cells [.bool false, .slice none 0 0, .slice none 0 0].toArray 32))) s6 (r7.out.ext (Ext.alloc wv (.cells [.bool false, .slice none 0 0, .slice none 0 0].toArray 32))) s7 (Rt.new wv [.bool false, .slice none 0 0, .slice none 0 0] 32) (Below.size XE) ne6_7 (Nat.ne_of_lt r6.out.lt) (Nat.ne_of_lt r7.out.lt)) (by kernel_rfl) (by kernel_rfl) (by kernel_rfl)
      have L1_6_7_8 : ∀ (wv : World) (v1 : Value) (B6 B7 B8 : Nat), Hid (Ext w1 wv) → Hid (OwnX 0 wv v1 la ca) → Hid (Rt wv B6 4 63) → Hid (w1.heap.size ≤ B6) → Hid (Rt wv B7 4 63) → Hid (w1.heap.size ≤ B7) → Hid (Rt wv B8 3 32) → Hid (w1.heap.size ≤ B8) → Hid (B6 ≠ B7) → Hid (B6 ≠ B8) → Hid (B7 ≠ B8) → wpAnyH Try.prog .any O Q9 SS 5 #[true, true, true, false, true, false, true, true, true, false, false, false] ((((AA.put (some 11) v1).put (some 7) (.pointer (some ⟨B6, 0, none⟩))).put (some 8) (.pointer (some ⟨B7, 0, none⟩))).put (some 9) (.pointer (some ⟨B8, 0, none⟩))) wv := by
        intro wv v1 B6 B7 B8 hX p1 r6 s6 r7 s7 r8 s8 ne6_7 ne6_8 ne7_8
        have hO1 := hO.out
        have hQ1 := hQ.out
        have hA1 := hA.out
        subst hO1
        subst hQ1
        subst hA1
        have XE := hX.out
        try simp only [Act.put, List.getElem_toArray, List.getElem_cons_succ, List.getElem_cons_zero, List.setIfInBounds_toArray, List.set_cons_zero, List.set_cons_succ]
        refine wpAnyH_ready (rs := [3]) (by kernel_rfl) (by simp) ?_
        refine AllReadyH.cons (o := _) rfl (fun K hK => ?_) AllReadyH.nil
        go_simp
        go_at_call 31
        refine (HEB.out _ _ (HV1.out.ext (Ext.trans b1 XE))).mono ?_
        rintro e wn ⟨vn, rfl, bn, on⟩
        go_wp2_with fail
        refine hK.out _ _ (KP.out _ (Ext.trans XE bn)) (fun _ => ?_)
        clear hK K
        try simp only [Act.put, List.getElem_toArray, List.getElem_cons_succ, List.getElem_cons_zero, List.setIfInBounds_toArray, List.set_cons_zero, List.set_cons_succ]
        exact wpAnyH_at (L2_6_7_8 wn v1 vn B6 B7 B8 (Ext.trans XE bn) (p1.out.ext bn) (on) (r6.out.ext bn) s6 (r7.out.ext bn) s7 (r8.out.ext bn) s8 ne6_7 ne6_8 ne7_8) (by kernel_rfl) (by kernel_rfl) (by kernel_rfl)
      have L2_7_8 : ∀ (wv : World) (v1 v3 : Value) (B7 B8 : Nat), Hid (Ext w1 wv) → Hid (OwnX 0 wv v1 la ca) → Hid (OwnX 0 wv v3 lb cb) → Hid (Rt wv B7 4 63) → Hid (w1.heap.size ≤ B7) → Hid (Rt wv B8 3 32) → Hid (w1.heap.size ≤ B8) → Hid (B7 ≠ B8) → wpAnyH Try.prog .any O Q9 SS 5 #[true, true, true, true, true, false, false, true, true, false, false, false] ((((AA.put (some 11) v1).put (some 13) v3).put (some 8) (.pointer (some ⟨B7, 0, none⟩))).put (some 9) (.pointer (some ⟨B8, 0, none⟩))) wv := by
        intro wv v1 v3 B7 B8 hX p1 p3 r7 s7 r8 s8 ne7_8
        have hO1 := hO.out
        have hQ1 := hQ.out
        have hA1 := hA.out
        subst hO1
        subst hQ1
        subst hA1
        have XE := hX.out
        try simp only [Act.put, List.getElem_toArray, List.getElem_cons_succ, List.getElem_cons_zero, List.setIfInBounds_toArray, List.set_cons_zero, List.set_cons_succ]
        refine wpAnyH_ready (rs := [5, 6]) (by kernel_rfl) (by simp) ?_
        refine AllReadyH.cons (o := _) rfl (fun K hK => ?_) (AllReadyH.cons (o := _) rfl (fun K hK => ?_) AllReadyH.nil)
        · skip
          go_simp
          go_at_call 18
          refine (HOF.out _ _ (HV2.out.ext (Ext.trans b1 XE))).mono ?_
          rintro e wn ⟨vn, rfl, bn, on⟩
          go_wp2_with fail
          refine hK.out _ _ (KP.out _ (Ext.trans XE bn)) (fun _ => ?_)
          clear hK K
          try simp only [Act.put, List.getElem_toArray, List.getElem_cons_succ, List.getElem_cons_zero, List.setIfInBounds_toArray, List.set_cons_zero, List.set_cons_succ]
          exact wpAnyH_at (L3_7_8 wn v1 v3 vn B7 B8 (Ext.trans XE bn) (p1.out.ext bn) (p3.out.ext bn) (on) (r7.out.ext bn) s7 (r8.out.ext bn) s8 ne7_8) (by kernel_rfl) (by kernel_rfl) (by kernel_rfl)
        · skip
          go_simp
          refine hK.out _ _ (KP.out _ (Ext.trans XE (Ext.alloc _ _))) (fun _ => ?_)
          clear hK K
          try simp only [Act.put, List.getElem_toArray, List.getElem_cons_succ, List.getElem_cons_zero, List.setIfInBounds_toArray, List.set_cons_zero, List.set_cons_succ]
          exact wpAnyH_at (L2_6_7_8 _ v1 v3 wv.heap.size B7 B8 (Ext.trans XE (Ext.alloc wv (.cells [.slice none 0 0, .bool false, .slice none 0 0, .slice none 0 0].toArray 63))) (p1.out.ext (Ext.alloc wv (.cells [.slice none 0 0, .bool false, .slice none 0 0, .slice none 0 0].toArray 63))) (p3.out.ext (Ext.alloc wv (.cells [.slice none 0 0, .bool false, .slice none 0 0, .slice none 0 0].toArray 63))) (Rt.new wv [.slice none 0 0, .bool false, .slice none 0 0, .slice none 0 0] 63) (Below.size XE) (r7.out.ext (Ext.alloc wv (.cells [.slice none 0 0, .bool false, .slice none 0 0, .slice none 0 0].toArray 63))) s7 (r8.out.ext (Ext.alloc wv (.cells [.slice none 0 0, .bool false, .slice none 0 0, .slice none 0 0].toArray 63))) s8 (Nat.ne_of_gt r7.out.lt) (Nat.ne_of_gt r8.out.lt) ne7_8) (by kernel_rfl) (by kernel_rfl) (by kernel_rfl)
      have L2_6_8 : ∀ (wv : World) (v1 v3 : Value) (B6 B8 : Nat), Hid (Ext w1 wv) → Hid (OwnX 0 wv v1 la ca) → Hid (OwnX 0 wv v3 lb cb) → Hid (Rt wv B6 4 63) → Hid (w1.heap.size ≤ B6) → Hid (Rt wv B8 3 32) → Hid (w1.heap.size ≤ B8) → Hid (B6 ≠ B8) → wpAnyH Try.prog .any O Q9 SS 5 #[true, true, true, true, true, false, true, false, true, false, false, false] ((((AA.put (some 11) v1).put (some 13) v3).put (some 7) (.pointer (some ⟨B6, 0, none⟩))).put (some 9) (.pointer (some ⟨B8, 0, none⟩))) wv := by
        intro wv v1 v3 B6 B8 hX p1 p3 r6 s6 r8 s8 ne6_8
        have hO1 := hO.out
        have hQ1 := hQ.out
        have hA1 := hA.out
        subst hO1
        subst hQ1
        subst hA1
        have XE := hX.out
        try simp only [Act.put, List.getElem_toArray, List.getElem_cons_succ, List.getElem_cons_zero, List.setIfInBounds_toArray, List.set_cons_zero, List.set_cons_succ]
        refine wpAnyH_ready (rs := [5, 7]) (by kernel_rfl) (by simp) ?_
        refine AllReadyH.cons (o := _) rfl (fun K hK => ?_) (AllReadyH.cons (o := _) rfl (fun K hK => ?_) AllReadyH.nil)
        · skip
          go_simp
          go_at_call 18
          refine (HOF.out _ _ (HV2.out.ext (Ext.trans b1 XE))).mono ?_
          rintro e wn ⟨vn, rfl, bn, on⟩
          go_wp2_with fail
          refine hK.out _ _ (KP.out _ (Ext.trans XE bn)) (fun _ => ?_)
          clear hK K
          try simp only [Act.put, List.getElem_toArray, List.getElem_cons_succ, List.getElem_cons_zero, List.setIfInBounds_toArray, List.set_cons_zero, List.set_cons_succ]
          exact wpAnyH_at (L3_6_8 wn v1 v3 vn B6 B8 (Ext.trans XE bn) (p1.out.ext bn) (p3.out.ext bn) (on) (r6.out.ext bn) s6 (r8.out.ext bn) s8 ne6_8) (by kernel_rfl) (by kernel_rfl) (by kernel_rfl)
        · skip
          go_simp
          refine hK.out _ _ (KP.out _ (Ext.trans XE (Ext.alloc _ _))) (fun _ => ?_)
          clear hK K
          try simp only [Act.put, List.getElem_toArray, List.getElem_cons_succ, List.getElem_cons_zero, List.setIfInBounds_toArray, List.set_cons_zero, List.set_cons_succ]
          exact wpAnyH_at (L2_6_7_8 _ v1 v3 B6 wv.heap.size B8 (Ext.trans XE (Ext.alloc wv (.cells [.slice none 0 0, .bool false, .slice none 0 0, .slice none 0 0].toArray 63))) (p1.out.ext (Ext.alloc wv (.cells [.slice none 0 0, .bool false, .slice none 0 0, .slice none 0 0].toArray 63))) (p3.out.ext (Ext.alloc wv (.cells [.slice none 0 0, .bool false, .slice none 0 0, .slice none 0 0].toArray 63))) (r6.out.ext (Ext.alloc wv (.cells [.slice none 0 0, .bool false, .slice none 0 0, .slice none 0 0].toArray 63))) s6 (Rt.new wv [.slice none 0 0, .bool false, .slice none 0 0, .slice none 0 0] 63) (Below.size XE) (r8.out.ext (Ext.alloc wv (.cells [.slice none 0 0, .bool false, .slice none 0 0, .slice none 0 0].toArray 63))) s8 (Nat.ne_of_lt r6.out.lt) ne6_8 (Nat.ne_of_gt r8.out.lt)) (by kernel_rfl) (by kernel_rfl) (by kernel_rfl)
      have L3_8 : ∀ (wv : World) (v1 v3 v5 : Value) (B8 : Nat), Hid (Ext w1 wv) → Hid (OwnX 0 wv v1 la ca) → Hid (OwnX 0 wv v3 lb cb) → Hid (OwnQ 163 0 wv v5 r) → Hid (Rt wv B8 3 32) → Hid (w1.heap.size ≤ B8) → wpAnyH Try.prog .any O Q9 SS 5 #[true, true, true, true, true, true, false, false, true, false, false, false] ((((AA.put (some 11) v1).put (some 13) v3).put (some 15) v5).put (some 9) (.pointer (some ⟨B8, 0, none⟩))) wv := by
        intro wv v1 v3 v5 B8 hX p1 p3 p5 r8 s8
        have hO1 := hO.out
        have hQ1 := hQ.out
        have hA1 := hA.out
        subst hO1
        subst hQ1
        subst hA1
        have XE := hX.out
        try simp only [Act.put, List.getElem_toArray, List.getElem_cons_succ, List.getElem_cons_zero, List.setIfInBounds_toArray, List.set_cons_zero, List.set_cons_succ]
        refine wpAnyH_ready (rs := [6, 7]) (by kernel_rfl) (by simp) ?_
        refine AllReadyH.cons (o := _) rfl (fun K hK => ?_) (AllReadyH.cons (o := _) rfl (fun K hK => ?_) AllReadyH.nil)
        · skip
          go_simp
          refine hK.out _ _ (KP.out _ (Ext.trans XE (Ext.alloc _ _))) (fun _ => ?_)
          clear hK K
          try simp only [Act.put, List.getElem_toArray, List.getElem_cons_succ, List.getElem_cons_zero, List.setIfInBounds_toArray, List.set_cons_zero, List.set_cons_succ]
          exact wpAnyH_at (L3_6_8 _ v1 v3 v5 wv.heap.size B8 (Ext.trans XE (Ext.alloc wv (.cells [.slice none 0 0, .bool false, .slice none 0 0, .slice none 0 0].toArray 63))) (p1.out.ext (Ext.alloc wv (.cells [.slice none 0 0, .bool false, .slice none 0 0, .slice none 0 0].toArray 63))) (p3.out.ext (Ext.alloc wv (.cells [.slice none 0 0, .bool false, .slice none 0 0, .slice none 0 0].toArray 63))) (p5.out.ext (Ext.alloc wv (.cells [.slice none 0 0, .bool false, .slice none 0 0, .slice none 0 0].toArray 63))) (Rt.new wv [.slice none 0 0, .bool false, .slice none 0 0, .slice none 0 0] 63) (Below.size XE) (r8.out.ext (Ext.alloc wv (.cells [.slice none 0 0, .bool false, .slice none 0 0, .slice none 0 0].toArray 63))) s8 (Nat.ne_of_gt r8.out.lt)) (by kernel_rfl) (by kernel_rfl) (by kernel_rfl)
        · skip
          go_simp
          refine hK.out _ _ (KP.out _ (Ext.trans XE (Ext.alloc _ _))) (fun _ => ?_)
          clear hK K
          try simp only [Act.put, List.getElem_toArray, List.getElem_cons_succ, List.getElem_cons_zero, List.setIfInBounds_toArray, List.set_cons_zero, List.set_cons_succ]
          exact wpAnyH_at (L3_7_8 _ v1 v3 v5 wv.heap.size B8 (Ext.trans XE (Ext.alloc wv (.cells [.slice none 0 0, .bool false, .slice none 0 0, .slice none 0 0].toArray 63))) (p1.out.ext (Ext.alloc wv (.cells [.slice none 0 0, .bool false, .slice none 0 0, .slice none 0 0].toArray 63))) (p3.out.ext (Ext.alloc wv (.cells [.slice none 0 0, .bool false, .slice none 0 0, .slice none 0 0].toArray 63))) (p5.out.ext (Ext.alloc wv (.cells [.slice none 0 0, .bool false, .slice none 0 0, .slice none 0 0].toArray 63))) (Rt.new wv [.slice none 0 0, .bool false, .slice none 0 0, .slice none 0 0] 63) (Below.size XE) (r8.out.ext (Ext.alloc wv (.cells [.slice none 0 0, .bool false, .slice none 0 0, .slice none 0 0].toArray 63))) s8 (Nat.ne_of_gt r8.out.lt)) (by kernel_rfl) (by kernel_rfl) (by kernel_rfl)
      have L2_6_7 : ∀ (wv : World) (v1 v3 : Value) (B6 B7 : Nat), Hid (Ext w1 wv) → Hid (OwnX 0 wv v1 la ca) → Hid (OwnX 0 wv v3 lb cb) → Hid (Rt wv B6 4 63) → Hid (w1.heap.size ≤ B6) → Hid (Rt wv B7 4 63) → Hid (w1.heap.size ≤ B7) → Hid (B6 ≠ B7) → wpAnyH Try.prog .any O Q9 SS 5 #[true, true, true, true, true, false, true, true, false, false, false, false] ((((AA.put (some 11) v1).put (some 13) v3).put (some 7) (.pointer (some ⟨B6, 0, none⟩))).put (some 8) (.pointer (some ⟨B7, 0, none⟩))) wv := by
        intro wv v1 v3 B6 B7 hX p1 p3 r6 s6 r7 s7 ne6_7
        have hO1 := hO.out
        have hQ1 := hQ.out
        have hA1 := hA.out
        subst hO1
        subst hQ1
        subst hA1
        have XE := hX.out
        try simp only [Act.put, List.getElem_toArray, List.getElem_cons_succ, List.getElem_cons_zero, List.setIfInBounds_toArray, List.set_cons_zero, List.set_cons_succ]
        refine wpAnyH_ready (rs := [5, 8]) (by kernel_rfl) (by simp) ?_
        refine AllReadyH.cons (o := _) rfl (fun K hK => ?_) (AllReadyH.cons (o := _) rfl (fun K hK => ?_) AllReadyH.nil)
        · skip
          go_simp
          go_at_call 18
          refine (HOF.out _ _ (HV2.out.ext (Ext.trans b1 XE))).mono ?_
          rintro e wn ⟨vn, rfl, bn, on⟩
          go_wp2_with fail
          refine hK.out _ _ (KP.out _ (Ext.trans XE bn)) (fun _ => ?_)
          clear hK K
          try simp only [Act.put, List.getElem_toArray, List.getElem_cons_succ, List.getElem_cons_zero, List.setIfInBounds_toArray, List.set_cons_zero, List.set_cons_succ]
          exact wpAnyH_at (L3_6_7 wn v1 v3 vn B6 B7 (Ext.trans XE bn) (p1.out.ext bn) (p3.out.ext bn) (on) (r6.out.ext bn) s6 (r7.out.ext bn) s7 ne6_7) (by kernel_rfl) (by kernel_rfl) (by kernel_rfl)
        · skip
          go_simp
          refine hK.out _ _ (KP.out _ (Ext.trans XE (Ext.alloc _ _))) (fun _ => ?_)
          clear hK K
          try simp only [Act.put, List.getElem_toArray, List.getElem_cons_succ, List.getElem_cons_zero, List.setIfInBounds_toArray, List.set_cons_zero, List.set_cons_succ]
          exact wpAnyH_at (L2_6_7_8 _ v1 v3 B6 B7 wv.heap.size (Ext.trans XE (Ext.alloc wv (.cells [.bool false, .slice none 0 0, .slice none 0 0].toArray 32))) (p1.out.ext (Ext.alloc wv (.cells [.bool false, .slice none 0 0, .slice none 0 0].toArray 32))) (p3.out.ext (Ext.alloc wv (.cells [.bool false, .slice none 0 0, .slice none 0 0].toArray 32))) (r6.out.ext (Ext.alloc wv (.cells [.bool false, .slice none 0 0, .slice none 0 0].toArray 32))) s6 (r7.out.ext (Ext.alloc wv (.cells [.bool false, .slice none 0 0, .slice none 0 0].toArray 32))) s7 (Rt.new wv [.bool false, .slice none 0 0, .slice none 0 0] 32) (Below.size XE) ne6_7 (Nat.ne_of_lt r6.out.lt) (Nat.ne_of_lt r7.out.lt)) (by kernel_rfl) (by kernel_rfl) (by kernel_rfl)
      have L3_7 : ∀ (wv : World) (v1 v3 v5 : Value) (B7 : Nat), Hid (Ext w1 wv) → Hid (OwnX 0 wv v1 la ca) → Hid (OwnX 0 wv v3 lb cb) → Hid (OwnQ 163 0 wv v5 r) → Hid (Rt wv B7 4 63) → Hid (w1.heap.size ≤ B7) → wpAnyH Try.prog .any O Q9 SS 5 #[true, true, true, true, true, true, false, true, false, false, false, false] ((((AA.put (some 11) v1).put (some 13) v3).put (some 15) v5).put (some 8) (.pointer (some ⟨B7, 0, none⟩))) wv := by
        intro wv v1 v3 v5 B7 hX p1 p3 p5 r7 s7
        have hO1 := hO.out
        have hQ1 := hQ.out
        have hA1 := hA.out
        subst hO1
        subst hQ1
        subst hA1
        have XE := hX.out
        try simp only [Act.put, List.getElem_toArray, List.getElem_cons_succ, List.getElem_cons_zero, List.setIfInBounds_toArray, List.set_cons_zero, List.set_cons_succ]
        refine wpAnyH_ready (rs := [6, 8]) (by kernel_rfl) (by simp) ?_
        refine AllReadyH.cons (o := _) rfl (fun K hK => ?_) (AllReadyH.cons (o := _) rfl (fun K hK => ?_) AllReadyH.nil)
        · skip
          go_simp
          refine hK.out _ _ (KP.out _ (Ext.trans XE (Ext.alloc _ _))) (fun _ => ?_)
          clear hK K
          try simp only [Act.put, List.getElem_toArray, List.getElem_cons_succ, List.getElem_cons_zero, List.setIfInBounds_toArray, List.set_cons_zero, List.set_cons_succ]
          exact wpAnyH_at (L3_6_7 _ v1 v3 v5 wv.heap.size B7 (Ext.trans XE (Ext.alloc wv (.cells [.slice none 0 0, .bool false, .slice none 0 0, .slice none 0 0].toArray 63))) (p1.out.ext (Ext.alloc wv (.cells [.slice none 0 0, .bool false, .slice none 0 0, .slice none 0 0].toArray 63))) (p3.out.ext (Ext.alloc wv (.cells [.slice none 0 0, .bool false, .slice none 0 0, .slice none 0 0].toArray 63))) (p5.out.ext (Ext.alloc wv (.cells [.slice none 0 0, .bool false, .slice none 0 0, .slice none 0 0].toArray 63))) (Rt.new wv [.slice none 0 0, .bool false, .slice none 0 0, .slice none 0 0] 63) (Below.size XE) (r7.out.ext (Ext.alloc wv (.cells [.slice none 0 0, .bool false, .slice none 0 0, .slice none 0 0].toArray 63))) s7 (Nat.ne_of_gt r7.out.lt)) (by kernel_rfl) (by kernel_rfl) (by kernel_rfl)
        · skip
          go_simp
          refine hK.out _ _ (KP.out _ (Ext.trans XE (Ext.alloc _ _))) (fun _ => ?_)
          clear hK K
          try simp only [Act.put, List.getElem_toArray, List.getElem_cons_succ, List.getElem_cons_zero, List.setIfInBounds_toArray, List.set_cons_zero, List.set_cons_succ]
          exact wpAnyH_at (L3_7_8 _ v1 v3 v5 B7 wv.heap.size (Ext.trans XE (Ext.alloc wv (.cells [.bool false, .slice none 0 0, .slice none 0 0].toArray 32))) (p1.out.ext (Ext.alloc wv (.cells [.bool false, .slice none 0 0, .slice none 0 0].toArray 32))) (p3.out.ext (Ext.alloc wv (.cells [.bool false, .slice none 0 0, .slice none 0 0].toArray 32))) (p5.out.ext (Ext.alloc wv (.cells [.bool false, .slice none 0 0, .slice none 0 0].toArray 32))) (r7.out.ext (Ext.alloc wv (.cells [.bool false, .slice none 0 0, .slice none 0 0].toArray 32))) s7 (Rt.new wv [.bool false, .slice none 0 0, .slice none 0 0] 32) (Below.size XE) (Nat.ne_of_lt r7.out.lt)) (by kernel_rfl) (by kernel_rfl) (by kernel_rfl)
      have L3_6 : ∀ (wv : World) (v1 v3 v5 : Value) (B6 : Nat), Hid (Ext w1 wv) → Hid (OwnX 0 wv v1 la ca) → Hid (OwnX 0 wv v3 lb cb) → Hid (OwnQ 163 0 wv v5 r) → Hid (Rt wv B6 4 63) → Hid (w1.heap.size ≤ B6) → wpAnyH Try.prog .any O Q9 SS 5 #[true, true, true, true, true, true, true, false, false, false, false, false] ((((AA.put (some 11) v1).put (some 13) v3).put (some 15) v5).put (some 7) (.pointer (some ⟨B6, 0, none⟩))) wv := by
        intro wv v1 v3 v5 B6 hX p1 p3 p5 r6 s6
        have hO1 := hO.out
        have hQ1 := hQ.out
        have hA1 := hA.out
        subst hO1
        subst hQ1
        subst hA1
        have XE := hX.out
        try simp only [Act.put, List.getElem_toArray, List.getElem_cons_succ, List.getElem_cons_zero, List.setIfInBounds_toArray, List.set_cons_zero, List.set_cons_succ]
        refine wpAnyH_ready (rs := [7, 8]) (by kernel_rfl) (by simp) ?_
        refine AllReadyH.cons (o := _) rfl (fun K hK => ?_) (AllReadyH.cons (o := _) rfl (fun K hK => ?_) AllReadyH.nil)
        · skip
          go_simp
          refine hK.out _ _ (KP.out _ (Ext.trans XE (Ext.alloc _ _))) (fun _ => ?_)
          clear hK K
          try simp only [Act.put, List.getElem_toArray, List.getElem_cons_succ, List.getElem_cons_zero, List.setIfInBounds_toArray, List.set_cons_zero, List.set_cons_succ]
          exact wpAnyH_at (L3_6_7 _ v1 v3 v5 B6 wv.heap.size (Ext.trans XE (Ext.alloc wv (.cells [.slice none 0 0, .bool false, .slice none 0 0, .slice none 0 0].toArray 63))) (p1.out.ext (Ext.alloc wv (.cells [.slice none 0 0, .bool false, .slice none 0 0, .slice none 0 0].toArray 63))) (p3.out.ext (Ext.alloc wv (.cells [.slice none 0 0, .bool false, .slice none 0 0, .slice none 0 0].toArray 63))) (p5.out.ext (Ext.alloc wv (.cells [.slice none 0 0, .bool false, .slice none 0 0, .slice none 0 0].toArray 63))) (r6.out.ext (Ext.alloc wv (.cells [.slice none 0 0, .bool false, .slice none 0 0, .slice none 0 0].toArray 63))) s6 (Rt.new wv [.slice none 0 0, .bool false, .slice none 0 0, .slice none 0 0] 63) (Below.size XE) (Nat.ne_of_lt r6.out.lt)) (by kernel_rfl) (by kernel_rfl) (by kernel_rfl)
        · skip
          go_simp
          refine hK.out _ _ (KP.out _ (Ext.trans XE (Ext.alloc _ _))) (fun _ => ?_)
          clear hK K
          try simp only [Act.put, List.getElem_toArray, List.getElem_cons_succ, List.getElem_cons_zero, List.setIfInBounds_toArray, List.set_cons_zero, List.set_cons_succ]
          exact wpAnyH_at (L3_6_8 _ v1 v3 v5 B6 wv.heap.size (Ext.trans XE (Ext.alloc wv (.cells [.bool false, .slice none 0 0, .slice none 0 0].toArray 32))) (p1.out.ext (Ext.alloc wv (.cells [.bool false, .slice none 0 0, .slice none 0 0].toArray 32))) (p3.out.ext (Ext.alloc wv (.cells [.bool false, .slice none 0 0, .slice none 0 0].toArray 32))) (p5.out.ext (Ext.alloc wv (.cells [.bool false, .slice none 0 0, .slice none 0 0].toArray 32))) (r6.out.ext (Ext.alloc wv (.cells [.bool false, .slice none 0 0, .slice none 0 0].toArray 32))) s6 (Rt.new wv [.bool false, .slice none 0 0, .slice none 0 0] 32) (Below.size XE) (Nat.ne_of_lt r6.out.lt)) (by kernel_rfl) (by kernel_rfl) (by kernel_rfl)
      have L0_6_7_8 : ∀ (wv : World) (B6 B7 B8 : Nat), Hid (Ext w1 wv) → Hid (Rt wv B6 4 63) → Hid (w1.heap.size ≤ B6) → Hid (Rt wv B7 4 63) → Hid (w1.heap.size ≤ B7) → Hid (Rt wv B8 3 32) → Hid (w1.heap.size ≤ B8) → Hid (B6 ≠ B7) → Hid (B6 ≠ B8) → Hid (B7 ≠ B8) → wpAnyH Try.prog .any O Q9 SS 6 #[true, false, true, false, true, false, true, true, true, false, false, false] (((AA.put (some 7) (.pointer (some ⟨B6, 0, none⟩))).put (some 8) (.pointer (some ⟨B7, 0, none⟩))).put (some 9) (.pointer (some ⟨B8, 0, none⟩))) wv := by
        intro wv B6 B7 B8 hX r6 s6 r7 s7 r8 s8 ne6_7 ne6_8 ne7_8
        have hO1 := hO.out
        have hQ1 := hQ.out
        have hA1 := hA.out
        subst hO1
        subst hQ1
        subst hA1
        have XE := hX.out
        try simp only [Act.put, List.getElem_toArray, List.getElem_cons_succ, List.getElem_cons_zero, List.setIfInBounds_toArray, List.set_cons_zero, List.set_cons_succ]
        refine wpAnyH_ready (rs := [1]) (by kernel_rfl) (by simp) ?_
        refine AllReadyH.cons (o := _) rfl (fun K hK => ?_) AllReadyH.nil
        go_simp
        go_at_call 31
        refine (HEA.out _ _ (HV0.out.ext (Ext.trans b1 XE))).mono ?_
        rintro e wn ⟨vn, rfl, bn, on⟩
        go_wp2_with fail
        refine hK.out _ _ (KP.out _ (Ext.trans XE bn)) (fun _ => ?_)
        clear hK K
        try simp only [Act.put, List.getElem_toArray, List.getElem_cons_succ, List.getElem_cons_zero, List.setIfInBounds_toArray, List.set_cons_zero, List.set_cons_succ]
        exact wpAnyH_at (L1_6_7_8 wn vn B6 B7 B8 (Ext.trans XE bn) (on) (r6.out.ext bn) s6 (r7.out.ext bn) s7 (r8.out.ext bn) s8 ne6_7 ne6_8 ne7_8) (by kernel_rfl) (by kernel_rfl) (by kernel_rfl)
      have L1_7_8 : ∀ (wv : World) (v1 : Value) (B7 B8 : Nat), Hid (Ext w1 wv) → Hid (OwnX 0 wv v1 la ca) → Hid (Rt wv B7 4 63) → Hid (w1.heap.size ≤ B7) → Hid (Rt wv B8 3 32) → Hid (w1.heap.size ≤ B8) → Hid (B7 ≠ B8) → wpAnyH Try.prog .any O Q9 SS 6 #[true, true, true, false, true, false, false, true, true, false, false, false] (((AA.put (some 11) v1).put (some 8) (.pointer (some ⟨B7, 0, none⟩))).put (some 9) (.pointer (some ⟨B8, 0, none⟩))) wv := by
        intro wv v1 B7 B8 hX p1 r7 s7 r8 s8 ne7_8
        have hO1 := hO.out
        have hQ1 := hQ.out
        have hA1 := hA.out
        subst hO1
        subst hQ1
        subst hA1
        have XE := hX.out
        try simp only [Act.put, List.getElem_toArray, List.getElem_cons_succ, List.getElem_cons_zero, List.setIfInBounds_toArray, List.set_cons_zero, List.set_cons_succ]
        refine wpAnyH_ready (rs := [3, 6]) (by kernel_rfl) (by simp) ?_
        refine AllReadyH.cons (o := _) rfl (fun K hK => ?_) (AllReadyH.cons (o := _) rfl (fun K hK => ?_) AllReadyH.nil)
        · skip
          go_simp
          go_at_call 31
          refine (HEB.out _ _ (HV1.out.ext (Ext.trans b1 XE))).mono ?_
          rintro e wn ⟨vn, rfl, bn, on⟩
          go_wp2_with fail
          refine hK.out _ _ (KP.out _ (Ext.trans XE bn)) (fun _ => ?_)
          clear hK K
          try simp only [Act.put, List.getElem_toArray, List.getElem_cons_succ, List.getElem_cons_zero, List.setIfInBounds_toArray, List.set_cons_zero, List.set_cons_succ]
          exact wpAnyH_at (L2_7_8 wn v1 vn B7 B8 (Ext.trans XE bn) (p1.out.ext bn) (on) (r7.out.ext bn) s7 (r8.out.ext bn) s8 ne7_8) (by kernel_rfl) (by kernel_rfl) (by kernel_rfl)
        · skip
          go_simp
          refine hK.out _ _ (KP.out _ (Ext.trans XE (Ext.alloc _ _))) (fun _ => ?_)
          clear hK K
          try simp only [Act.put, List.getElem_toArray, List.getElem_cons_succ, List.getElem_cons_zero, List.setIfInBounds_toArray, List.set_cons_zero, List.set_cons_succ]
          exact wpAnyH_at (L1_6_7_8 _ v1 wv.heap.size B7 B8 (Ext.trans XE (Ext.alloc wv (.cells [.slice none 0 0, .bool false, .slice none 0 0, .slice none 0 0].toArray 63))) (p1.out.ext (Ext.alloc wv (.cells [.slice none 0 0, .bool false, .slice none 0 0, .slice none 0 0].toArray 63))) (Rt.new wv [.slice none 0 0, .bool false, .slice none 0 0, .slice none 0 0] 63) (Below.size XE) (r7.out.ext (Ext.alloc wv (.cells [.slice none 0 0, .bool false, .slice none 0 0, .slice none 0 0].toArray 63))) s7 (r8.out.ext (Ext.alloc wv (.cells [.slice none 0 0, .bool false, .slice none 0 0, .slice none 0 0].toArray 63))) s8 (Nat.ne_of_gt r7.out.lt) (Nat.ne_of_gt r8.out.lt) ne7_8) (by kernel_rfl) (by kernel_rfl) (by kernel_rfl)
      have L1_6_8 : ∀ (wv : World) (v1 : Value) (B6 B8 : Nat), Hid (Ext w1 wv) → Hid (OwnX 0 wv v1 la ca) → Hid (Rt wv B6 4 63) → Hid (w1.heap.size ≤ B6) → Hid (Rt wv B8 3 32) → Hid (w1.heap.size ≤ B8) → Hid (B6 ≠ B8) → wpAnyH Try.prog .any O Q9 SS 6 #[true, true, true, false, true, false, true, false, true, false, false, false] (((AA.put (some 11) v1).put (some 7) (.pointer (some ⟨B6, 0, none⟩))).put (some 9) (.pointer (some ⟨B8, 0, none⟩))) wv := by
        intro wv v1 B6 B8 hX p1 r6 s6 r8 s8 ne6_8
        have hO1 := hO.out
        have hQ1 := hQ.out
        have hA1 := hA.out
        subst hO1
        subst hQ1
        subst hA1
        have XE := hX.out
        try simp only [Act.put, List.getElem_toArray, List.getElem_cons_succ, List.getElem_cons_zero, List.setIfInBounds_toArray, List.set_cons_zero, List.set_cons_succ]
        refine wpAnyH_ready (rs := [3, 7]) (by kernel_rfl) (by simp) ?_
        refine AllReadyH.cons (o := _) rfl (fun K hK => ?_) (AllReadyH.cons (o := _) rfl (fun K hK => ?_) AllReadyH.nil)
        · skip
          go_simp
          go_at_call 31
          refine (HEB.out _ _ (HV1.out.ext (Ext.trans b1 XE))).mono ?_
          rintro e wn ⟨vn, rfl, bn, on⟩
          go_wp2_with fail
          refine hK.out _ _ (KP.out _ (Ext.trans XE bn)) (fun _ => ?_)
          clear hK K
          try simp only [Act.put, List.getElem_toArray, List.getElem_cons_succ, List.getElem_cons_zero, List.setIfInBounds_toArray, List.set_cons_zero, List.set_cons_succ]
          exact wpAnyH_at (L2_6_8 wn v1 vn B6 B8 (Ext.trans XE bn) (p1.out.ext bn) (on) (r6.out.ext bn) s6 (r8.out.ext bn) s8 ne6_8) (by kernel_rfl) (by kernel_rfl) (by kernel_rfl)
        · skip
          go_simp
          refine hK.out _ _ (KP.out _ (Ext.trans XE (Ext.alloc _ _))) (fun _ => ?_)
          clear hK K
          try simp only [Act.put, List.getElem_toArray, List.getElem_cons_succ, List.getElem_cons_zero, List.setIfInBounds_toArray, List.set_cons_zero, List.set_cons_succ]
          exact wpAnyH_at (L1_6_7_8 _ v1 B6 wv.heap.size B8 (Ext.trans XE (Ext.alloc wv (.cells [.slice none 0 0, .bool false, .slice none 0 0, .slice none 0 0].toArray 63))) (p1.out.ext (Ext.alloc wv (.cells [.slice none 0 0, .bool false, .slice none 0 0, .slice none 0 0].toArray 63))) (r6.out.ext (Ext.alloc wv (.cells [.slice none 0 0, .bool false, .slice none 0 0, .slice none 0 0].toArray 63))) s6 (Rt.new wv [.slice none 0 0, .bool false, .slice none 0 0, .slice none 0 0] 63) (Below.size XE) (r8.out.ext (Ext.alloc wv (.cells [.slice none 0 0, .bool false, .slice none 0 0, .slice none 0 0].toArray 63))) s8 (Nat.ne_of_lt r6.out.lt) ne6_8 (Nat.ne_of_gt r8.out.lt)) (by kernel_rfl) (by kernel_rfl) (by kernel_rfl)
      have L2_8 : ∀ (wv : World) (v1 v3 : Value) (B8 : Nat), Hid (Ext w1 wv) → Hid (OwnX 0 wv v1 la ca) → Hid (OwnX 0 wv v3 lb cb) → Hid (Rt wv B8 3 32) → Hid (w1.heap.size ≤ B8) → wpAnyH Try.prog .any O Q9 SS 6 #[true, true, true, true, true, false, false, false, true, false, false, false] (((AA.put (some 11) v1).put (some 13) v3).put (some 9) (.pointer (some ⟨B8, 0, none⟩))) wv := by
        intro wv v1 v3 B8 hX p1 p3 r8 s8
        have hO1 := hO.out
        have hQ1 := hQ.out
        have hA1 := hA.out
        subst hO1
        subst hQ1
        subst hA1
        have XE := hX.out
        try simp only [Act.put, List.getElem_toArray, List.getElem_cons_succ, List.getElem_cons_zero, List.setIfInBounds_toArray, List.set_cons_zero, List.set_cons_succ]
        refine wpAnyH_ready (rs := [5, 6, 7]) (by kernel_rfl) (by simp) ?_
        refine AllReadyH.cons (o := _) rfl (fun K hK => ?_) (AllReadyH.cons (o := _) rfl (fun K hK => ?_) (AllReadyH.cons (o := _) rfl (fun K hK => ?_) AllReadyH.nil))
        · skip
          go_simp
          go_at_call 18
          refine (HOF.out _ _ (HV2.out.ext (Ext.trans b1 XE))).mono ?_
          rintro e wn ⟨vn, rfl, bn, on⟩
          go_wp2_with fail
          refine hK.out _ _ (KP.out _ (Ext.trans XE bn)) (fun _ => ?_)
          clear hK K
          try simp only [Act.put, List.getElem_toArray, List.getElem_cons_succ, List.getElem_cons_zero, List.setIfInBounds_toArray, List.set_cons_zero, List.set_cons_succ]
          exact wpAnyH_at (L3_8 wn v1 v3 vn B8 (Ext.trans XE bn) (p1.out.ext bn) (p3.out.ext bn) (on) (r8.out.ext bn) s8) (by kernel_rfl) (by kernel_rfl) (by kernel_rfl)
        · skip
          go_simp
          refine hK.out _ _ (KP.out _ (Ext.trans XE (Ext.alloc _ _))) (fun _ => ?_)
          clear hK K
          try simp only [Act.put, List.getElem_toArray, List.getElem_cons_succ, List.getElem_cons_zero, List.setIfInBounds_toArray, List.set_cons_zero, List.set_cons_succ]
          exact wpAnyH_at (L2_6_8 _ v1 v3 wv.heap.size B8 (Ext.trans XE (Ext.alloc wv (.cells [.slice none 0 0, .bool false, .slice none 0 0, .slice none 0 0].toArray 63))) (p1.out.ext (Ext.alloc wv (.cells [.slice none 0 0, .bool false, .slice none 0 0, .slice none 0 0].toArray 63))) (p3.out.ext (Ext.alloc wv (.cells [.slice none 0 0, .bool false, .slice none 0 0, .slice none 0 0].toArray 63))) (Rt.new wv [.slice none 0 0, .bool false, .slice none 0 0, .slice none 0 0] 63) (Below.size XE) (r8.out.ext (Ext.alloc wv (.cells [.slice none 0 0, .bool false, .slice none 0 0, .slice none 0 0].toArray 63))) s8 (Nat.ne_of_gt r8.out.lt)) (by kernel_rfl) (by kernel_rfl) (by kernel_rfl)
        · skip
          go_simp
          refine hK.out _ _ (KP.out _ (Ext.trans XE (Ext.alloc _ _))) (fun _ => ?_)
          clear hK K
          try simp only [Act.put, List.getElem_toArray, List.getElem_cons_succ, List.getElem_cons_zero, List.setIfInBounds_toArray, List.set_cons_zero, List.set_cons_succ]
          exact wpAnyH_at (L2_7_8 _ v1 v3 wv.heap.size B8 (Ext.trans XE (Ext.alloc wv (.cells [.slice none 0 0, .bool false, .slice none 0 0, .slice none 0 0].toArray 63))) (p1.out.ext (Ext.alloc wv (.cells [.slice none 0 0, .bool false, .slice none 0 0, .slice none 0 0].toArray 63))) (p3.out.ext (Ext.alloc wv (.cells [.slice none 0 0, .bool false, .slice none 0 0, .slice none 0 0].toArray 63))) (Rt.new wv [.slice none 0 0, .bool false, .slice none 0 0, .slice none 0 0] 63) (Below.size XE) (r8.out.ext (Ext.alloc wv (.cells [.slice none 0 0, .bool false, .slice none 0 0, .slice none 0 0].toArray 63))) s8 (Nat.ne_of_gt r8.out.lt)) (by kernel_rfl) (by kernel_rfl) (by kernel_rfl)
      have L1_6_7 : ∀ (wv : World) (v1 : Value) (B6 B7 : Nat), Hid (Ext w1 wv) → Hid (OwnX 0 wv v1 la ca) → Hid (Rt wv B6 4 63) → Hid (w1.heap.size ≤ B6) → Hid (Rt wv B7 4 63) → Hid (w1.heap.size ≤ B7) → Hid (B6 ≠ B7) → wpAnyH Try.prog .any O Q9 SS 6 #[true, true, true, false, true, false, true, true, false, false, false, false] (((AA.put (some 11) v1).put (some 7) (.pointer (some ⟨B6, 0, none⟩))).put (some 8) (.pointer (some ⟨B7, 0, none⟩))) wv := by
        intro wv v1 B6 B7 hX p1 r6 s6 r7 s7 ne6_7
        have hO1 := hO.out
        have hQ1 := hQ.out
        have hA1 := hA.out
        subst hO1
        subst hQ1
        subst hA1
        have XE := hX.out
        try simp only [Act.put, List.getElem_toArray, List.getElem_cons_succ, List.getElem_cons_zero, List.setIfInBounds_toArray, List.set_cons_zero, List.set_cons_succ]
        refine wpAnyH_ready (rs := [3, 8]) (by kernel_rfl) (by simp) ?_
        refine AllReadyH.cons (o := _) rfl (fun K hK => ?_) (AllReadyH.cons (o := _) rfl (fun K hK => ?_) AllReadyH.nil)
        · skip
          go_simp
          go_at_call 31
          refine (HEB.out _ _ (HV1.out.ext (Ext.trans b1 XE))).mono ?_
          rintro e wn ⟨vn, rfl, bn, on⟩
          go_wp2_with fail
          refine hK.out _ _ (KP.out _ (Ext.trans XE bn)) (fun _ => ?_)
          clear hK K
          try simp only [Act.put, List.getElem_toArray, List.getElem_cons_succ, List.getElem_cons_zero, List.setIfInBounds_toArray, List.set_cons_zero, List.set_cons_succ]
          exact wpAnyH_at (L2_6_7 wn v1 vn B6 B7 (Ext.trans XE bn) (p1.out.ext bn) (on) (r6.out.ext bn) s6 (r7.out.ext bn) s7 ne6_7) (by kernel_rfl) (by kernel_rfl) (by kernel_rfl)
        · skip
          go_simp
          refine hK.out _ _ (KP.out _ (Ext.trans XE (Ext.alloc _ _))) (fun _ => ?_)
          clear hK K
          try simp only [Act.put, List.getElem_toArray, List.getElem_cons_succ, List.getElem_cons_zero, List.setIfInBounds_toArray, List.set_cons_zero, List.set_cons_succ]
          exact wpAnyH_at (L1_6_7_8 _ v1 B6 B7 wv.heap.size (Ext.trans XE (Ext.alloc wv (.cells [.bool false, .slice none 0 0, .slice none 0 0].toArray 32))) (p1.out.ext (Ext.alloc wv (.cells [.bool false, .slice none 0 0, .slice none 0 0].toArray 32))) (r6.out.ext (Ext.alloc wv (.cells [.bool false, .slice none 0 0, .slice none 0 0].toArray 32))) s6 (r7.out.ext (Ext.alloc wv (.cells [.bool false, .slice none 0 0, .slice none 0 0].toArray 32))) s7 (Rt.new wv [.bool false, .slice none 0 0, .slice none 0 0] 32) (Below.size XE) ne6_7 (Nat.ne_of_lt r6.out.lt) (Nat.ne_of_lt r7.out.lt)) (by kernel_rfl) (by kernel_rfl) (by kernel_rfl)
      have L2_7 : ∀ (wv : World) (v1 v3 : Value) (B7 : Nat), Hid (Ext w1 wv) → Hid (OwnX 0 wv v1 la ca) → Hid (OwnX 0 wv v3 lb cb) → Hid (Rt wv B7 4 63) → Hid (w1.heap.size ≤ B7) → wpAnyH Try.prog .any O Q9 SS 6 #[true, true, true, true, true, false, false, true, false, false, false, false] (((AA.put (some 11) v1).put (some 13) v3).put (some 8) (.pointer (some ⟨B7, 0, none⟩))) wv := by
        intro wv v1 v3 B7 hX p1 p3 r7 s7
        have hO1 := hO.out
        have hQ1 := hQ.out
        have hA1 := hA.out
        subst hO1
        subst hQ1
        subst hA1
        have XE := hX.out
        try simp only [Act.put, List.getElem_toArray, List.getElem_cons_succ, List.getElem_cons_zero, List.setIfInBounds_toArray, List.set_cons_zero, List.set_cons_succ]
        refine wpAnyH_ready (rs := [5, 6, 8]) (by kernel_rfl) (by simp) ?_
        refine AllReadyH.cons (o := _) rfl (fun K hK => ?_) (AllReadyH.cons (o := _) rfl (fun K hK => ?_) (AllReadyH.cons (o := _) rfl (fun K hK => ?_) AllReadyH.nil))
        · skip
          go_simp
          go_at_call 18
          refine (HOF.out _ _ (HV2.out.ext (Ext.trans b1 XE))).mono ?_
          rintro e wn ⟨vn, rfl, bn, on⟩
          go_wp2_with fail
          refine hK.out _ _ (KP.out _ (Ext.trans XE bn)) (fun _ => ?_)
          clear hK K
          try simp only [Act.put, List.getElem_toArray, List.getElem_cons_succ, List.getElem_cons_zero, List.setIfInBounds_toArray, List.set_cons_zero, List.set_cons_succ]
          exact wpAnyH_at (L3_7 wn v1 v3 vn B7 (Ext.trans XE bn) (p1.out.ext bn) (p3.out.ext bn) (on) (r7.out.ext bn) s7) (by kernel_rfl) (by kernel_rfl) (by kernel_rfl)
        · skip
          go_simp
          refine hK.out _ _ (KP.out _ (Ext.trans XE (Ext.alloc _ _))) (fun _ => ?_)
          clear hK K
          try simp only [Act.put, List.getElem_toArray, List.getElem_cons_succ, List.getElem_cons_zero, List.setIfInBounds_toArray, List.set_cons_zero, List.set_cons_succ]
          exact wpAnyH_at (L2_6_7 _ v1 v3 wv.heap.size B7 (Ext.trans XE (Ext.alloc wv (.cells [.slice none 0 0, .bool false, .slice none 0 0, .slice none 0 0].toArray 63))) (p1.out.ext (Ext.alloc wv (.cells [.slice none 0 0, .bool false, .slice none 0 0, .slice none 0 0].toArray 63))) (p3.out.ext (Ext.alloc wv (.cells [.slice none 0 0, .bool false, .slice none 0 0, .slice none 0 0].toArray 63))) (Rt.new wv [.slice none 0 0, .bool false, .slice none 0 0, .slice none 0 0] 63) (Below.size XE) (r7.out.ext (Ext.alloc wv (.cells [.slice none 0 0, .bool false, .slice none 0 0, .slice none 0 0].toArray 63))) s7 (Nat.ne_of_gt r7.out.lt)) (by kernel_rfl) (by kernel_rfl) (by kernel_rfl)
        · skip
          go_simp
          refine hK.out _ _ (KP.out _ (Ext.trans XE (Ext.alloc _ _))) (fun _ => ?_)
          clear hK K
          try simp only [Act.put, List.getElem_toArray, List.getElem_cons_succ, List.getElem_cons_zero, List.setIfInBounds_toArray, List.set_cons_zero, List.set_cons_succ]
          exact wpAnyH_at (L2_7_8 _ v1 v3 B7 wv.heap.size (Ext.trans XE (Ext.alloc wv (.cells [.bool false, .slice none 0 0, .slice none 0 0].toArray 32))) (p1.out.ext (Ext.alloc wv (.cells [.bool false, .slice none 0 0, .slice none 0 0].toArray 32))) (p3.out.ext (Ext.alloc wv (.cells [.bool false, .slice none 0 0, .slice none 0 0].toArray 32))) (r7.out.ext (Ext.alloc wv (.cells [.bool false, .slice none 0 0, .slice none 0 0].toArray 32))) s7 (Rt.new wv [.bool false, .slice none 0 0, .slice none 0 0] 32) (Below.size XE) (Nat.ne_of_lt r7.out.lt)) (by kernel_rfl) (by kernel_rfl) (by kernel_rfl)
      have L2_6 : ∀ (wv : World) (v1 v3 : Value) (B6 : Nat), Hid (Ext w1 wv) → Hid (OwnX 0 wv v1 la ca) → Hid (OwnX 0 wv v3 lb cb) → Hid (Rt wv B6 4 63) → Hid (w1.heap.size ≤ B6) → wpAnyH Try.prog .any O Q9 SS 6 #[true, true, true, true, true, false, true, false, false, false, false, false] (((AA.put (some 11) v1).put (some 13) v3).put (some 7) (.pointer (some ⟨B6, 0, none⟩))) wv := by
        intro wv v1 v3 B6 hX p1 p3 r6 s6
        have hO1 := hO.out
        have hQ1 := hQ.out
        have hA1 := hA.out
        subst hO1
        subst hQ1
        subst hA1
        have XE := hX.out
        try simp only [Act.put, List.getElem_toArray, List.getElem_cons_succ, List.getElem_cons_zero, List.setIfInBounds_toArray, List.set_cons_zero, List.set_cons_succ]
        refine wpAnyH_ready (rs := [5, 7, 8]) (by kernel_rfl) (by simp) ?_
        refine AllReadyH.cons (o := _) rfl (fun K hK => ?_) (AllReadyH.cons (o := _) rfl (fun K hK => ?_) (AllReadyH.cons (o := _) rfl (fun K hK => ?_) AllReadyH.nil))
        · skip
          go_simp
          go_at_call 18
          refine (HOF.out _ _ (HV2.out.ext (Ext.trans b1 XE))).mono ?_
          rintro e wn ⟨vn, rfl, bn, on⟩
          go_wp2_with fail
          refine hK.out _ _ (KP.out _ (Ext.trans XE bn)) (fun _ => ?_)
          clear hK K
          try simp only [Act.put, List.getElem_toArray, List.getElem_cons_succ, List.getElem_cons_zero, List.setIfInBounds_toArray, List.set_cons_zero, List.set_cons_succ]
          exact wpAnyH_at (L3_6 wn v1 v3 vn B6 (Ext.trans XE bn) (p1.out.ext bn) (p3.out.ext bn) (on) (r6.out.ext bn) s6) (by kernel_rfl) (by kernel_rfl) (by kernel_rfl)
        · skip
          go_simp
          refine hK.out _ _ (KP.out _ (Ext.trans XE (Ext.alloc _ _))) (fun _ => ?_)
          clear hK K
          try simp only [Act.put, List.getElem_toArray, List.getElem_cons_succ, List.getElem_cons_zero, List.setIfInBounds_toArray, List.set_cons_zero, List.set_cons_succ]
          exact wpAnyH_at (L2_6_7 _ v1 v3 B6 wv.heap.size (Ext.trans XE (Ext.alloc wv (.cells [.slice none 0 0, .bool false, .slice none 0 0, .slice none 0 0].toArray 63))) (p1.out.ext (Ext.alloc wv (.cells [.slice none 0 0, .bool false, .slice none 0 0, .slice none 0 0].toArray 63))) (p3.out.ext (Ext.alloc wv (.cells [.slice none 0 0, .bool false, .slice none 0 0, .slice none 0 0].toArray 63))) (r6.out.ext (Ext.alloc wv (.cells [.slice none 0 0, .bool false, .slice none 0 0, .slice none 0 0].toArray 63))) s6 (Rt.new wv [.slice none 0 0, .bool false, .slice none 0 0, .slice none 0 0] 63) (Below.size XE) (Nat.ne_of_lt r6.out.lt)) (by kernel_rfl) (by kernel_rfl) (by kernel_rfl)
        · skip
          go_simp
          refine hK.out _ _ (KP.out _ (Ext.trans XE (Ext.alloc _ _))) (fun _ => ?_)
          clear hK K
          try simp only [Act.put, List.getElem_toArray, List.getElem_cons_succ, List.getElem_cons_zero, List.setIfInBounds_toArray, List.set_cons_zero, List.set_cons_succ]
          exact wpAnyH_at (L2_6_8 _ v1 v3 B6 wv.heap.size (Ext.trans XE (Ext.alloc wv (.cells [.bool false, .slice none 0 0, .slice none 0 0].toArray 32))) (p1.out.ext (Ext.alloc wv (.cells [.bool false, .slice none 0 0, .slice none 0 0].toArray 32))) (p3.out.ext (Ext.alloc wv (.cells [.bool false, .slice none 0 0, .slice none 0 0].toArray 32))) (r6.out.ext (Ext.alloc wv (.cells [.bool false, .slice none 0 0, .slice none 0 0].toArray 32))) s6 (Rt.new wv [.bool false, .slice none 0 0, .slice none 0 0] 32) (Below.size XE) (Nat.ne_of_lt r6.out.lt)) (by kernel_rfl) (by kernel_rfl) (by kernel_rfl)
      have L3_ : ∀ (wv : World) (v1 v3 v5 : Value), Hid (Ext w1 wv) → Hid (OwnX 0 wv v1 la ca) → Hid (OwnX 0 wv v3 lb cb) → Hid (OwnQ 163 0 wv v5 r) → wpAnyH Try.prog .any O Q9 SS 6 #[true, true, true, true, true, true, false, false, false, false, false, false] (((AA.put (some 11) v1).put (some 13) v3).put (some 15) v5) wv := by
        intro wv v1 v3 v5 hX p1 p3 p5
        have hO1 := hO.out
        have hQ1 := hQ.out
        have hA1 := hA.out
        subst hO1
        subst hQ1
        subst hA1
        have XE := hX.out
        try simp only [Act.put, List.getElem_toArray, List.getElem_cons_succ, List.getElem_cons_zero, List.setIfInBounds_toArray, List.set_cons_zero, List.set_cons_succ]
        refine wpAnyH_ready (rs := [6, 7, 8]) (by kernel_rfl) (by simp) ?_
        refine AllReadyH.cons (o := _) rfl (fun K hK => ?_) (AllReadyH.cons (o := _) rfl (fun K hK => ?_) (AllReadyH.cons (o := _) rfl (fun K hK => ?_) AllReadyH.nil))
        · skip
          go_simp
          refine hK.out _ _ (KP.out _ (Ext.trans XE (Ext.alloc _ _))) (fun _ => ?_)
          clear hK K
          try simp only [Act.put, List.getElem_toArray, List.getElem_cons_succ, List.getElem_cons_zero, List.setIfInBounds_toArray, List.set_cons_zero, List.set_cons_succ]
          exact wpAnyH_at (L3_6 _ v1 v3 v5 wv.heap.size (Ext.trans XE (Ext.alloc wv (.cells [.slice none 0 0, .bool false, .slice none 0 0, .slice none 0 0].toArray 63))) (p1.out.ext (Ext.alloc wv (.cells [.slice none 0 0, .bool false, .slice none 0 0, .slice none 0 0].toArray 63))) (p3.out.ext (Ext.alloc wv (.cells [.slice none 0 0, .bool false, .slice none 0 0, .slice none 0 0].toArray 63))) (p5.out.ext (Ext.alloc wv (.cells [.slice none 0 0, .bool false, .slice none 0 0, .slice none 0 0].toArray 63))) (Rt.new wv [.slice none 0 0, .bool false, .slice none 0 0, .slice none 0 0] 63) (Below.size XE)) (by kernel_rfl) (by kernel_rfl) (by kernel_rfl)
        · skip
          go_simp
          refine hK.out _ _ (KP.out _ (Ext.trans XE (Ext.alloc _ _))) (fun _ => ?_)
          clear hK K
          try simp only [Act.put, List.getElem_toArray, List.getElem_cons_succ, List.getElem_cons_zero, List.setIfInBounds_toArray, List.set_cons_zero, List.set_cons_succ]
          exact wpAnyH_at (L3_7 _ v1 v3 v5 wv.heap.size (Ext.trans XE (Ext.alloc wv (.cells [.slice none 0 0, .bool false, .slice none 0 0, .slice none 0 0].toArray 63))) (p1.out.ext (Ext.alloc wv (.cells [.slice none 0 0, .bool false, .slice none 0 0, .slice none 0 0].toArray 63))) (p3.out.ext (Ext.alloc wv (.cells [.slice none 0 0, .bool false, .slice none 0 0, .slice none 0 0].toArray 63))) (p5.out.ext (Ext.alloc wv (.cells [.slice none 0 0, .bool false, .slice none 0 0, .slice none 0 0].toArray 63))) (Rt.new wv [.slice none 0 0, .bool false, .slice none 0 0, .slice none 0 0] 63) (Below.size XE)) (by kernel_rfl) (by kernel_rfl) (by kernel_rfl)
        · skip
          go_simp
          refine hK.out _ _ (KP.out _ (Ext.trans XE (Ext.alloc _ _))) (fun _ => ?_)
          clear hK K
          try simp only [Act.put, List.getElem_toArray, List.getElem_cons_succ, List.getElem_cons_zero, List.setIfInBounds_toArray, List.set_cons_zero, List.set_cons_succ]
          exact wpAnyH_at (L3_8 _ v1 v3 v5 wv.heap.size (Ext.trans XE (Ext.alloc wv (.cells [.bool false, .slice none 0 0, .slice none 0 0].toArray 32))) (p1.out.ext (Ext.alloc wv (.cells [.bool false, .slice none 0 0, .slice none 0 0].toArray 32))) (p3.out.ext (Ext.alloc wv (.cells [.bool false, .slice none 0 0, .slice none 0 0].toArray 32))) (p5.out.ext (Ext.alloc wv (.cells [.bool false, .slice none 0 0, .slice none 0 0].toArray 32))) (Rt.new wv [.bool false, .slice none 0 0, .slice none 0 0] 32) (Below.size XE)) (by kernel_rfl) (by kernel_rfl) (by kernel_rfl)
      have L0_7_8 : ∀ (wv : World) (B7 B8 : Nat), Hid (Ext w1 wv) → Hid (Rt wv B7 4 63) → Hid (w1.heap.size ≤ B7) → Hid (Rt wv B8 3 32) → Hid (w1.heap.size ≤ B8) → Hid (B7 ≠ B8) → wpAnyH Try.prog .any O Q9 SS 7 #[true, false, true, false, true, false, false, true, true, false, false, false] ((AA.put (some 8) (.pointer (some ⟨B7, 0, none⟩))).put (some 9) (.pointer (some ⟨B8, 0, none⟩))) wv := by
        intro wv B7 B8 hX r7 s7 r8 s8 ne7_8
        have hO1 := hO.out
        have hQ1 := hQ.out
        have hA1 := hA.out
        subst hO1
        subst hQ1
        subst hA1
        have XE := hX.out
        try simp only [Act.put, List.getElem_toArray, List.getElem_cons_succ, List.getElem_cons_zero, List.setIfInBounds_toArray, List.set_cons_zero, List.set_cons_succ]
        refine wpAnyH_ready (rs := [1, 6]) (by kernel_rfl) (by simp) ?_
        refine AllReadyH.cons (o := _) rfl (fun K hK => ?_) (AllReadyH.cons (o := _) rfl (fun K hK => ?_) AllReadyH.nil)
        · skip
          go_simp
          go_at_call 31
          refine (HEA.out _ _ (HV0.out.ext (Ext.trans b1 XE))).mono ?_
          rintro e wn ⟨vn, rfl, bn, on⟩
          go_wp2_with fail
          refine hK.out _ _ (KP.out _ (Ext.trans XE bn)) (fun _ => ?_)
          clear hK K
          try simp only [Act.put, List.getElem_toArray, List.getElem_cons_succ, List.getElem_cons_zero, List.setIfInBounds_toArray, List.set_cons_zero, List.set_cons_succ]
          exact wpAnyH_at (L1_7_8 wn vn B7 B8 (Ext.trans XE bn) (on) (r7.out.ext bn) s7 (r8.out.ext bn) s8 ne7_8) (by kernel_rfl) (by kernel_rfl) (by kernel_rfl)
        · skip
          go_simp
          refine hK.out _ _ (KP.out _ (Ext.trans XE (Ext.alloc _ _))) (fun _ => ?_)
          clear hK K
          try simp only [Act.put, List.getElem_toArray, List.getElem_cons_succ, List.getElem_cons_zero, List.setIfInBounds_toArray, List.set_cons_zero, List.set_cons_succ]
          exact wpAnyH_at (L0_6_7_8 _ wv.heap.size B7 B8 (Ext.trans XE (Ext.alloc wv (.cells [.slice none 0 0, .bool false, .slice none 0 0, .slice none 0 0].toArray 63))) (Rt.new wv [.slice none 0 0, .bool false, .slice none 0 0, .slice none 0 0] 63) (Below.size XE) (r7.out.ext (Ext.alloc wv (.cells [.slice none 0 0, .bool false, .slice none 0 0, .slice none 0 0].toArray 63))) s7 (r8.out.ext (Ext.alloc wv (.cells [.slice none 0 0, .bool false, .slice none 0 0, .slice none 0 0].toArray 63))) s8 (Nat.ne_of_gt r7.out.lt) (Nat.ne_of_gt r8.out.lt) ne7_8) (by kernel_rfl) (by kernel_rfl) (by kernel_rfl)
      have L0_6_8 : ∀ (wv : World) (B6 B8 : Nat), Hid (Ext w1 wv) → Hid (Rt wv B6 4 63) → Hid (w1.heap.size ≤ B6) → Hid (Rt wv B8 3 32) → Hid (w1.heap.size ≤ B8) → Hid (B6 ≠ B8) → wpAnyH Try.prog .any O Q9 SS 7 #[true, false, true, false, true, false, true, false, true, false, false, false] ((AA.put (some 7) (.pointer (some ⟨B6, 0, none⟩))).put (some 9) (.pointer (some ⟨B8, 0, none⟩))) wv := by
        intro wv B6 B8 hX r6 s6 r8 s8 ne6_8
        have hO1 := hO.out
        have hQ1 := hQ.out
        have hA1 := hA.out
        subst hO1
        subst hQ1
        subst hA1
        have XE := hX.out
        try simp only [Act.put, List.getElem_toArray, List.getElem_cons_succ, List.getElem_cons_zero, List.setIfInBounds_toArray, List.set_cons_zero, List.set_cons_succ]
        refine wpAnyH_ready (rs := [1, 7]) (by kernel_rfl) (by simp) ?_
        refine AllReadyH.cons (o := _) rfl (fun K hK => ?_) (AllReadyH.cons (o := _) rfl (fun K hK => ?_) AllReadyH.nil)
        · skip
          go_simp
          go_at_call 31
          refine (HEA.out _ _ (HV0.out.ext (Ext.trans b1 XE))).mono ?_
          rintro e wn ⟨vn, rfl, bn, on⟩
          go_wp2_with fail
          refine hK.out _ _ (KP.out _ (Ext.trans XE bn)) (fun _ => ?_)
          clear hK K
          try simp only [Act.put, List.getElem_toArray, List.getElem_cons_succ, List.getElem_cons_zero, List.setIfInBounds_toArray, List.set_cons_zero, List.set_cons_succ]
          exact wpAnyH_at (L1_6_8 wn vn B6 B8 (Ext.trans XE bn) (on) (r6.out.ext bn) s6 (r8.out.ext bn) s8 ne6_8) (by kernel_rfl) (by kernel_rfl) (by kernel_rfl)
        · skip
          go_simp
          refine hK.out _ _ (KP.out _ (Ext.trans XE (Ext.alloc _ _))) (fun _ => ?_)
          clear hK K
          try simp only [Act.put, List.getElem_toArray, List.getElem_cons_succ, List.getElem_cons_zero, List.setIfInBounds_toArray, List.set_cons_zero, List.set_cons_succ]
          exact wpAnyH_at (L0_6_7_8 _ B6 wv.heap.size B8 (Ext.trans XE (Ext.alloc wv (.cells [.slice none 0 0, .bool false, .slice none 0 0, .slice none 0 0].toArray 63))) (r6.out.ext (Ext.alloc wv (.cells [.slice none 0 0, .bool false, .slice none 0 0, .slice none 0 0].toArray 63))) s6 (Rt.new wv [.slice none 0 0, .bool false, .slice none 0 0, .slice none 0 0] 63) (Below.size XE) (r8.out.ext (Ext.alloc wv (.cells [.slice none 0 0, .bool false, .slice none 0 0, .slice none 0 0].toArray 63))) s8 (Nat.ne_of_lt r6.out.lt) ne6_8 (Nat.ne_of_gt r8.out.lt)) (by kernel_rfl) (by kernel_rfl) (by kernel_rfl)
      have L1_8 : ∀ (wv : World) (v1 : Value) (B8 : Nat), Hid (Ext w1 wv) → Hid (OwnX 0 wv v1 la ca) → Hid (Rt wv B8 3 32) → Hid (w1.heap.size ≤ B8) → wpAnyH Try.prog .any O Q9 SS 7 #[true, true, true, false, true, false, false, false, true, false, false, false] ((AA.put (some 11) v1).put (some 9) (.pointer (some ⟨B8, 0, none⟩))) wv := by
        intro wv v1 B8 hX p1 r8 s8
        have hO1 := hO.out
        have hQ1 := hQ.out
        have hA1 := hA.out
        subst hO1
        subst hQ1
        subst hA1
        have XE := hX.out
        try simp only [Act.put, List.getElem_toArray, List.getElem_cons_succ, List.getElem_cons_zero, List.setIfInBounds_toArray, List.set_cons_zero, List.set_cons_succ]
        refine wpAnyH_ready (rs := [3, 6, 7]) (by kernel_rfl) (by simp) ?_
        refine AllReadyH.cons (o := _) rfl (fun K hK => ?_) (AllReadyH.cons (o := _) rfl (fun K hK => ?_) (AllReadyH.cons (o := _) rfl (fun K hK => ?_) AllReadyH.nil))
        · skip
          go_simp
          go_at_call 31
          refine (HEB.out _ _ (HV1.out.ext (Ext.trans b1 XE))).mono ?_
          rintro e wn ⟨vn, rfl, bn, on⟩
          go_wp2_with fail
          refine hK.out _ _ (KP.out _ (Ext.trans XE bn)) (fun _ => ?_)
          clear hK K
          try simp only [Act.put, List.getElem_toArray, List.getElem_cons_succ, List.getElem_cons_zero, List.setIfInBounds_toArray, List.set_cons_zero, List.set_cons_succ]
          exact wpAnyH_at (L2_8 wn v1 vn B8 (Ext.trans XE bn) (p1.out.ext bn) (on) (r8.out.ext bn) s8) (by kernel_rfl) (by kernel_rfl) (by kernel_rfl)
        · skip
          go_simp
          refine hK.out _ _ (KP.out _ (Ext.trans XE (Ext.alloc _ _))) (fun _ => ?_)
          clear hK K
          try simp only [Act.put, List.getElem_toArray, List.getElem_cons_succ, List.getElem_cons_zero, List.setIfInBounds_toArray, List.set_cons_zero, List.set_cons_succ]
          exact wpAnyH_at (L1_6_8 _ v1 wv.heap.size B8 (Ext.trans XE (Ext.alloc wv (.cells [.slice none 0 0, .bool false, .slice none 0 0, .slice none 0 0].toArray 63))) (p1.out.ext (Ext.alloc wv (.cells [.slice none 0 0, .bool false, .slice none 0 0, .slice none 0 0].toArray 63))) (Rt.new wv [.slice none 0 0, .bool false, .slice none 0 0, .slice none 0 0] 63) (Below.size XE) (r8.out.ext (Ext.alloc wv (.cells [.slice none 0 0, .bool false, .slice none 0 0, .slice none 0 0].toArray 63))) s8 (Nat.ne_of_gt r8.out.lt)) (by kernel_rfl) (by kernel_rfl) (by kernel_rfl)
        · skip
          go_simp
          refine hK.out _ _ (KP.out _ (Ext.trans XE (Ext.alloc _ _))) (fun _ => ?_)
          clear hK K
          try simp only [Act.put, List.getElem_toArray, List.getElem_cons_succ, List.getElem_cons_zero, List.setIfInBounds_toArray, List.set_cons_zero, List.set_cons_succ]
          exact wpAnyH_at (L1_7_8 _ v1 wv.heap.size B8 (Ext.trans XE (Ext.alloc wv (.cells [.slice none 0 0, .bool false, .slice none 0 0, .slice none 0 0].toArray 63))) (p1.out.ext (Ext.alloc wv (.cells [.slice none 0 0, .bool false, .slice none 0 0, .slice none 0 0].toArray 63))) (Rt.new wv [.slice none 0 0, .bool false, .slice none 0 0, .slice none 0 0] 63) (Below.size XE) (r8.out.ext (Ext.alloc wv (.cells [.slice none 0 0, .bool false, .slice none 0 0, .slice none 0 0].toArray 63))) s8 (Nat.ne_of_gt r8.out.lt)) (by kernel_rfl) (by kernel_rfl) (by kernel_rfl)
      have L0_6_7 : ∀ (wv : World) (B6 B7 : Nat), Hid (Ext w1 wv) → Hid (Rt wv B6 4 63) → Hid (w1.heap.size ≤ B6) → Hid (Rt wv B7 4 63) → Hid (w1.heap.size ≤ B7) → Hid (B6 ≠ B7) → wpAnyH Try.prog .any O Q9 SS 7 #[true, false, true, false, true, false, true, true, false, false, false, false] ((AA.put (some 7) (.pointer (some ⟨B6, 0, none⟩))).put (some 8) (.pointer (some ⟨B7, 0, none⟩))) wv := by
        intro wv B6 B7 hX r6 s6 r7 s7 ne6_7
        have hO1 := hO.out
        have hQ1 := hQ.out
        have hA1 := hA.out
        subst hO1
        subst hQ1
        subst hA1
        have XE := hX.out
        try simp only [Act.put, List.getElem_toArray, List.getElem_cons_succ, List.getElem_cons_zero, List.setIfInBounds_toArray, List.set_cons_zero, List.set_cons_succ]
        refine wpAnyH_ready (rs := [1, 8]) (by kernel_rfl) (by simp) ?_
        refine AllReadyH.cons (o := _) rfl (fun K hK => ?_) (AllReadyH.cons (o := _) rfl (fun K hK => ?_) AllReadyH.nil)
        · skip
          go_simp
          go_at_call 31
          refine (HEA.out _ _ (HV0.out.ext (Ext.trans b1 XE))).mono ?_
          rintro e wn ⟨vn, rfl, bn, on⟩
          go_wp2_with fail
          refine hK.out _ _ (KP.out _ (Ext.trans XE bn)) (fun _ => ?_)
          clear hK K
          try simp only [Act.put, List.getElem_toArray, List.getElem_cons_succ, List.getElem_cons_zero, List.setIfInBounds_toArray, List.set_cons_zero, List.set_cons_succ]
          exact wpAnyH_at (L1_6_7 wn vn B6 B7 (Ext.trans XE bn) (on) (r6.out.ext bn) s6 (r7.out.ext bn) s7 ne6_7) (by kernel_rfl) (by kernel_rfl) (by kernel_rfl)
        · skip
          go_simp
          refine hK.out _ _ (KP.out _ (Ext.trans XE (Ext.alloc _ _))) (fun _ => ?_)
          clear hK K
          try simp only [Act.put, List.getElem_toArray, List.getElem_cons_succ, List.getElem_cons_zero, List.setIfInBounds_toArray, List.set_cons_zero, List.set_cons_succ]
          exact wpAnyH_at (L0_6_7_8 _ B6 B7 wv.heap.size (Ext.trans XE (Ext.alloc wv (.cells [.bool false, .slice none 0 0, .slice none 0 0].toArray 32))) (r6.out.ext (Ext.alloc wv (.cells [.bool false, .slice none 0 0, .slice none 0 0].toArray 32))) s6 (r7.out.ext (Ext.alloc wv (.cells [.bool false, .slice none 0 0, .slice none 0 0].toArray 32))) s7 (Rt.new wv [.bool false, .slice none 0 0, .slice none 0 0] 32) (Below.size XE) ne6_7 (Nat.ne_of_lt r6.out.lt) (Nat.ne_of_lt r7.out.lt)) (by kernel_rfl) (by kernel_rfl) (by kernel_rfl)
      have L1_7 : ∀ (wv : World) (v1 : Value) (B7 : Nat), Hid (Ext w1 wv) → Hid (OwnX 0 wv v1 la ca) → Hid (Rt wv B7 4 63) → Hid (w1.heap.size ≤ B7) → wpAnyH Try.prog .any O Q9 SS 7 #[true, true, true, false, true, false, false, true, false, false, false, false] ((AA.put (some 11) v1).put (some 8) (.pointer (some ⟨B7, 0, none⟩))) wv := by
        intro wv v1 B7 hX p1 r7 s7
        have hO1 := hO.out
        have hQ1 := hQ.out
        have hA1 := hA.out
        subst hO1
        subst hQ1
        subst hA1
        have XE := hX.out
        try simp only [Act.put, List.getElem_toArray, List.getElem_cons_succ, List.getElem_cons_zero, List.setIfInBounds_toArray, List.set_cons_zero, List.set_cons_succ]
        refine wpAnyH_ready (rs := [3, 6, 8]) (by kernel_rfl) (by simp) ?_
        refine AllReadyH.cons (o := _) rfl (fun K hK => ?_) (AllReadyH.cons (o := _) rfl (fun K hK => ?_) (AllReadyH.cons (o := _) rfl (fun K hK => ?_) AllReadyH.nil))
        · skip
          go_simp
          go_at_call 31
          refine (HEB.out _ _ (HV1.out.ext (Ext.trans b1 XE))).mono ?_
          rintro e wn ⟨vn, rfl, bn, on⟩
          go_wp2_with fail
          refine hK.out _ _ (KP.out _ (Ext.trans XE bn)) (fun _ => ?_)
          clear hK K
          try simp only [Act.put, List.getElem_toArray, List.getElem_cons_succ, List.getElem_cons_zero, List.setIfInBounds_toArray, List.set_cons_zero, List.set_cons_succ]
          exact wpAnyH_at (L2_7 wn v1 vn B7 (Ext.trans XE bn) (p1.out.ext bn) (on) (r7.out.ext bn) s7) (by kernel_rfl) (by kernel_rfl) (by kernel_rfl)
        · skip
          go_simp
          refine hK.out _ _ (KP.out _ (Ext.trans XE (Ext.alloc _ _))) (fun _ => ?_)
          clear hK K
          try simp only [Act.put, List.getElem_toArray, List.getElem_cons_succ, List.getElem_cons_zero, List.setIfInBounds_toArray, List.set_cons_zero, List.set_cons_succ]
          exact wpAnyH_at (L1_6_7 _ v1 wv.heap.size B7 (Ext.trans XE (Ext.alloc wv (.cells [.slice none 0 0, .bool false, .slice none 0 0, .slice none 0 0].toArray 63))) (p1.out.ext (Ext.alloc wv (.cells [.slice none 0 0, .bool false, .slice none 0 0, .slice none 0 0].toArray 63))) (Rt.new wv [.slice none 0 0, .bool false, .slice none 0 0, .slice none 0 0] 63) (Below.size XE) (r7.out.ext (Ext.alloc wv (.cells [.slice none 0 0, .bool false, .slice none 0 0, .slice none 0 0].toArray 63))) s7 (Nat.ne_of_gt r7.out.lt)) (by kernel_rfl) (by kernel_rfl) (by kernel_rfl)
        · skip
          go_simp
          refine hK.out _ _ (KP.out _ (Ext.trans XE (Ext.alloc _ _))) (fun _ => ?_)
          clear hK K
          try simp only [Act.put, List.getElem_toArray, List.getElem_cons_succ, List.getElem_cons_zero, List.setIfInBounds_toArray, List.set_cons_zero, List.set_cons_succ]
          exact wpAnyH_at (L1_7_8 _ v1 B7 wv.heap.size (Ext.trans XE (Ext.alloc wv (.cells [.bool false, .slice none 0 0, .slice none 0 0].toArray 32))) (p1.out.ext (Ext.alloc wv (.cells [.bool false, .slice none 0 0, .slice none 0 0].toArray 32))) (r7.out.ext (Ext.alloc wv (.cells [.bool false, .slice none 0 0, .slice none 0 0].toArray 32))) s7 (Rt.new wv [.bool false, .slice none 0 0, .slice none 0 0] 32) (Below.size XE) (Nat.ne_of_lt r7.out.lt)) (by kernel_rfl) (by kernel_rfl) (by kernel_rfl)
      have L1_6 : ∀ (wv : World) (v1 : Value) (B6 : Nat), Hid (Ext w1 wv) → Hid (OwnX 0 wv v1 la ca) → Hid (Rt wv B6 4 63) → Hid (w1.heap.size ≤ B6) → wpAnyH Try.prog .any O Q9 SS 7 #[true, true, true, false, true, false, true, false, false, false, false, false] ((AA.put (some 11) v1).put (some 7) (.pointer (some ⟨B6, 0, none⟩))) wv := by
        intro wv v1 B6 hX p1 r6 s6
        have hO1 := hO.out
        have hQ1 := hQ.out
        have hA1 := hA.out
        subst hO1
        subst hQ1
        subst hA1
        have XE := hX.out
        try simp only [Act.put, List.getElem_toArray, List.getElem_cons_succ, List.getElem_cons_zero, List.setIfInBounds_toArray, List.set_cons_zero, List.set_cons_succ]
        refine wpAnyH_ready (rs := [3, 7, 8]) (by kernel_rfl) (by simp) ?_
        refine AllReadyH.cons (o := _) rfl (fun K hK => ?_) (AllReadyH.cons (o := _) rfl (fun K hK => ?_) (AllReadyH.cons (o := _) rfl (fun K hK => ?_) AllReadyH.nil))
        · skip
          go_simp
          go_at_call 31
          refine (HEB.out _ _ (HV1.out.ext (Ext.trans b1 XE))).mono ?_
          rintro e wn ⟨vn, rfl, bn, on⟩
          go_wp2_with fail
          refine hK.out _ _ (KP.out _ (Ext.trans XE bn)) (fun _ => ?_)
          clear hK K
          try simp only [Act.put, List.getElem_toArray, List.getElem_cons_succ, List.getElem_cons_zero, List.setIfInBounds_toArray, List.set_cons_zero, List.set_cons_succ]
          exact wpAnyH_at (L2_6 wn v1 vn B6 (Ext.trans XE bn) (p1.out.ext bn) (on) (r6.out.ext bn) s6) (by kernel_rfl) (by kernel_rfl) (by kernel_rfl)
        · skip
          go_simp
          refine hK.out _ _ (KP.out _ (Ext.trans XE (Ext.alloc _ _))) (fun _ => ?_)
          clear hK K
          try simp only [Act.put, List.getElem_toArray, List.getElem_cons_succ, List.getElem_cons_zero, List.setIfInBounds_toArray, List.set_cons_zero, List.set_cons_succ]
          exact wpAnyH_at (L1_6_7 _ v1 B6 wv.heap.size (Ext.trans XE (Ext.alloc wv (.cells [.slice none 0 0, .bool false, .slice none 0 0, .slice none 0 0].toArray 63))) (p1.out.ext (Ext.alloc wv (.cells [.slice none 0 0, .bool false, .slice none 0 0, .slice none 0 0].toArray 63))) (r6.out.ext (Ext.alloc wv (.cells [.slice none 0 0, .bool false, .slice none 0 0, .slice none 0 0].toArray 63))) s6 (Rt.new wv [.slice none 0 0, .bool false, .slice none 0 0, .slice none 0 0] 63) (Below.size XE) (Nat.ne_of_lt r6.out.lt)) (by kernel_rfl) (by kernel_rfl) (by kernel_rfl)
        · skip
          go_simp
          refine hK.out _ _ (KP.out _ (Ext.trans XE (Ext.alloc _ _))) (fun _ => ?_)
          clear hK K
          try simp only [Act.put, List.getElem_toArray, List.getElem_cons_succ, List.getElem_cons_zero, List.setIfInBounds_toArray, List.set_cons_zero, List.set_cons_succ]
          exact wpAnyH_at (L1_6_8 _ v1 B6 wv.heap.size (Ext.trans XE (Ext.alloc wv (.cells [.bool false, .slice none 0 0, .slice none 0 0].toArray 32))) (p1.out.ext (Ext.alloc wv (.cells [.bool false, .slice none 0 0, .slice none 0 0].toArray 32))) (r6.out.ext (Ext.alloc wv (.cells [.bool false, .slice none 0 0, .slice none 0 0].toArray 32))) s6 (Rt.new wv [.bool false, .slice none 0 0, .slice none 0 0] 32) (Below.size XE) (Nat.ne_of_lt r6.out.lt)) (by kernel_rfl) (by kernel_rfl) (by kernel_rfl)
      have L2_ : ∀ (wv : World) (v1 v3 : Value), Hid (Ext w1 wv) → Hid (OwnX 0 wv v1 la ca) → Hid (OwnX 0 wv v3 lb cb) → wpAnyH Try.prog .any O Q9 SS 7 #[true, true, true, true, true, false, false, false, false, false, false, false] ((AA.put (some 11) v1).put (some 13) v3) wv := by
        intro wv v1 v3 hX p1 p3
        have hO1 := hO.out
        have hQ1 := hQ.out
        have hA1 := hA.out
        subst hO1
        subst hQ1
        subst hA1
        have XE := hX.out
        try simp only [Act.put, List.getElem_toArray, List.getElem_cons_succ, List.getElem_cons_zero, List.setIfInBounds_toArray, List.set_cons_zero, List.set_cons_succ]
        refine wpAnyH_ready (rs := [5, 6, 7, 8]) (by kernel_rfl) (by simp) ?_
        refine AllReadyH.cons (o := _) rfl (fun K hK => ?_) (AllReadyH.cons (o := _) rfl (fun K hK => ?_) (AllReadyH.cons (o := _) rfl (fun K hK => ?_) (AllReadyH.cons (o := _) rfl (fun K hK => ?_) AllReadyH.nil)))
        · skip
          go_simp
          go_at_call 18
          refine (HOF.out _ _ (HV2.out.ext (Ext.trans b1 XE))).mono ?_
          rintro e wn ⟨vn, rfl, bn, on⟩
          go_wp2_with fail
          refine hK.out _ _ (KP.out _ (Ext.trans XE bn)) (fun _ => ?_)
          clear hK K
          try simp only [Act.put, List.getElem_toArray, List.getElem_cons_succ, List.getElem_cons_zero, List.setIfInBounds_toArray, List.set_cons_zero, List.set_cons_succ]
          exact wpAnyH_at (L3_ wn v1 v3 vn (Ext.trans XE bn) (p1.out.ext bn) (p3.out.ext bn) (on)) (by kernel_rfl) (by kernel_rfl) (by kernel_rfl)
        · skip
          go_simp
          refine hK.out _ _ (KP.out _ (Ext.trans XE (Ext.alloc _ _))) (fun _ => ?_)
          clear hK K
          try simp only [Act.put, List.getElem_toArray, List.getElem_cons_succ, List.getElem_cons_zero, List.setIfInBounds_toArray, List.set_cons_zero, List.set_cons_succ]
          exact wpAnyH_at (L2_6 _ v1 v3 wv.heap.size (Ext.trans XE (Ext.alloc wv (.cells [.slice none 0 0, .bool false, .slice none 0 0, .slice none 0 0].toArray 63))) (p1.out.ext (Ext.alloc wv (.cells [.slice none 0 0, .bool false, .slice none 0 0, .slice none 0 0].toArray 63))) (p3.out.ext (Ext.alloc wv (.cells [.slice none 0 0, .bool false, .slice none 0 0, .slice none 0 0].toArray 63))) (Rt.new wv [.slice none 0 0, .bool false, .slice none 0 0, .slice none 0 0] 63) (Below.size XE)) (by kernel_rfl) (by kernel_rfl) (by kernel_rfl)
        · skip
          go_simp
          refine hK.out _ _ (KP.out _ (Ext.trans XE (Ext.alloc _ _))) (fun _ => ?_)
          clear hK K
          try simp only [Act.put, List.getElem_toArray, List.getElem_cons_succ, List.getElem_cons_zero, List.setIfInBounds_toArray, List.set_cons_zero, List.set_cons_succ]
          exact wpAnyH_at (L2_7 _ v1 v3 wv.heap.size (Ext.trans XE (Ext.alloc wv (.cells [.slice none 0 0, .bool false, .slice none 0 0, .slice none 0 0].toArray 63))) (p1.out.ext (Ext.alloc wv (.cells [.slice none 0 0, .bool false, .slice none 0 0, .slice none 0 0].toArray 63))) (p3.out.ext (Ext.alloc wv (.cells [.slice none 0 0, .bool false, .slice none 0 0, .slice none 0 0].toArray 63))) (Rt.new wv [.slice none 0 0, .bool false, .slice none 0 0, .slice none 0 0] 63) (Below.size XE)) (by kernel_rfl) (by kernel_rfl) (by kernel_rfl)
        · skip
          go_simp
          refine hK.out _ _ (KP.out _ (Ext.trans XE (Ext.alloc _ _))) (fun _ => ?_)
          clear hK K
          try simp only [Act.put, List.getElem_toArray, List.getElem_cons_succ, List.getElem_cons_zero, List.setIfInBounds_toArray, List.set_cons_zero, List.set_cons_succ]
          exact wpAnyH_at (L2_8 _ v1 v3 wv.heap.size (Ext.trans XE (Ext.alloc wv (.cells [.bool false, .slice none 0 0, .slice none 0 0].toArray 32))) (p1.out.ext (Ext.alloc wv (.cells [.bool false, .slice none 0 0, .slice none 0 0].toArray 32))) (p3.out.ext (Ext.alloc wv (.cells [.bool false, .slice none 0 0, .slice none 0 0].toArray 32))) (Rt.new wv [.bool false, .slice none 0 0, .slice none 0 0] 32) (Below.size XE)) (by kernel_rfl) (by kernel_rfl) (by kernel_rfl)
      have L0_8 : ∀ (wv : World) (B8 : Nat), Hid (Ext w1 wv) → Hid (Rt wv B8 3 32) → Hid (w1.heap.size ≤ B8) → wpAnyH Try.prog .any O Q9 SS 8 #[true, false, true, false, true, false, false, false, true, false, false, false] (AA.put (some 9) (.pointer (some ⟨B8, 0, none⟩))) wv := by
        intro wv B8 hX r8 s8
        have hO1 := hO.out
        have hQ1 := hQ.out
        have hA1 := hA.out
        subst hO1
        subst hQ1
        subst hA1
        have XE := hX.out
        try simp only [Act.put, List.getElem_toArray, List.getElem_cons_succ, List.getElem_cons_zero, List.setIfInBounds_toArray, List.set_cons_zero, List.set_cons_succ]
        refine wpAnyH_ready (rs := [1, 6, 7]) (by kernel_rfl) (by simp) ?_
        refine AllReadyH.cons (o := _) rfl (fun K hK => ?_) (AllReadyH.cons (o := _) rfl (fun K hK => ?_) (AllReadyH.cons (o := _) rfl (fun K hK => ?_) AllReadyH.nil))
        · skip
          go_simp
          go_at_call 31
          refine (HEA.out _ _ (HV0.out.ext (Ext.trans b1 XE))).mono ?_
          rintro e wn ⟨vn, rfl, bn, on⟩
          go_wp2_with fail
          refine hK.out _ _ (KP.out _ (Ext.trans XE bn)) (fun _ => ?_)
          clear hK K
          try simp only [Act.put, List.getElem_toArray, List.getElem_cons_succ, List.getElem_cons_zero, List.setIfInBounds_toArray, List.set_cons_zero, List.set_cons_succ]
          exact wpAnyH_at (L1_8 wn vn B8 (Ext.trans XE bn) (on) (r8.out.ext bn) s8) (by kernel_rfl) (by kernel_rfl) (by kernel_rfl)
        · skip
          go_simp
          refine hK.out _ _ (KP.out _ (Ext.trans XE (Ext.alloc _ _))) (fun _ => ?_)
          clear hK K
          try simp only [Act.put, List.getElem_toArray, List.getElem_cons_succ, List.getElem_cons_zero, List.setIfInBounds_toArray, List.set_cons_zero, List.set_cons_succ]
          exact wpAnyH_at (L0_6_8 _ wv.heap.size B8 (Ext.trans XE (Ext.alloc wv (.cells [.slice none 0 0, .bool false, .slice none 0 0, .slice none 0 0].toArray 63))) (Rt.new wv [.slice none 0 0, .bool false, .slice none 0 0, .slice none 0 0] 63) (Below.size XE) (r8.out.ext (Ext.alloc wv (.cells [.slice none 0 0, .bool false, .slice none 0 0, .slice none 0 0].toArray 63))) s8 (Nat.ne_of_gt r8.out.lt)) (by kernel_rfl) (by kernel_rfl) (by kernel_rfl)
        · skip
          go_simp
          refine hK.out _ _ (KP.out _ (Ext.trans XE (Ext.alloc _ _))) (fun _ => ?_)
          clear hK K
          try simp only [Act.put, List.getElem_toArray, List.getElem_cons_succ, List.getElem_cons_zero, List.setIfInBounds_toArray, List.set_cons_zero, List.set_cons_succ]
          exact wpAnyH_at (L0_7_8 _ wv.heap.size B8 (Ext.trans XE (Ext.alloc wv (.cells [.slice none 0 0, .bool false, .slice none 0 0, .slice none 0 0].toArray 63))) (Rt.new wv [.slice none 0 0, .bool false, .slice none 0 0, .slice none 0 0] 63) (Below.size XE) (r8.out.ext (Ext.alloc wv (.cells [.slice none 0 0, .bool false, .slice none 0 0, .slice none 0 0].toArray 63))) s8 (Nat.ne_of_gt r8.out.lt)) (by kernel_rfl) (by kernel_rfl) (by kernel_rfl)
      have L0_7 : ∀ (wv : World) (B7 : Nat), Hid (Ext w1 wv) → Hid (Rt wv B7 4 63) → Hid (w1.heap.size ≤ B7) → wpAnyH Try.prog .any O Q9 SS 8 #[true, false, true, false, true, false, false, true, false, false, false, false] (AA.put (some 8) (.pointer (some ⟨B7, 0, none⟩))) wv := by
        intro wv B7 hX r7 s7
        have hO1 := hO.out
        have hQ1 := hQ.out
        have hA1 := hA.out
        subst hO1
        subst hQ1
        subst hA1
        have XE := hX.out
        try simp only [Act.put, List.getElem_toArray, List.getElem_cons_succ, List.getElem_cons_zero, List.setIfInBounds_toArray, List.set_cons_zero, List.set_cons_succ]
        refine wpAnyH_ready (rs := [1, 6, 8]) (by kernel_rfl) (by simp) ?_
        refine AllReadyH.cons (o := _) rfl (fun K hK => ?_) (AllReadyH.cons (o := _) rfl (fun K hK => ?_) (AllReadyH.cons (o := _) rfl (fun K hK => ?_) AllReadyH.nil))
        · skip
          go_simp
          go_at_call 31
          refine (HEA.out _ _ (HV0.out.ext (Ext.trans b1 XE))).mono ?_
          rintro e wn ⟨vn, rfl, bn, on⟩
          go_wp2_with fail
          refine hK.out _ _ (KP.out _ (Ext.trans XE bn)) (fun _ => ?_)
          clear hK K
          try simp only [Act.put, List.getElem_toArray, List.getElem_cons_succ, List.getElem_cons_zero, List.setIfInBounds_toArray, List.set_cons_zero, List.set_cons_succ]
          exact wpAnyH_at (L1_7 wn vn B7 (Ext.trans XE bn) (on) (r7.out.ext bn) s7) (by kernel_rfl) (by kernel_rfl) (by kernel_rfl)
        · skip
          go_simp
          refine hK.out _ _ (KP.out _ (Ext.trans XE (Ext.alloc _ _))) (fun _ => ?_)
          clear hK K
          try simp only [Act.put, List.getElem_toArray, List.getElem_cons_succ, List.getElem_cons_zero, List.setIfInBounds_toArray, List.set_cons_zero, List.set_cons_succ]
          exact wpAnyH_at (L0_6_7 _ wv.heap.size B7 (Ext.trans XE (Ext.alloc wv (.cells [.slice none 0 0, .bool false, .slice none 0 0, .slice none 0 0].toArray 63))) (Rt.new wv [.slice none 0 0, .bool false, .slice none 0 0, .slice none 0 0] 63) (Below.size XE) (r7.out.ext (Ext.alloc wv (.cells [.slice none 0 0, .bool false, .slice none 0 0, .slice none 0 0].toArray 63))) s7 (Nat.ne_of_gt r7.out.lt)) (by kernel_rfl) (by kernel_rfl) (by kernel_rfl)
        · skip
          go_simp
          refine hK.out _ _ (KP.out _ (Ext.trans XE (Ext.alloc _ _))) (fun _ => ?_)
          clear hK K
          try simp only [Act.put, List.getElem_toArray, List.getElem_cons_succ, List.getElem_cons_zero, List.setIfInBounds_toArray, List.set_cons_zero, List.set_cons_succ]
          exact wpAnyH_at (L0_7_8 _ B7 wv.heap.size (Ext.trans XE (Ext.alloc wv (.cells [.bool false, .slice none 0 0, .slice none 0 0].toArray 32))) (r7.out.ext (Ext.alloc wv (.cells [.bool false, .slice none 0 0, .slice none 0 0].toArray 32))) s7 (Rt.new wv [.bool false, .slice none 0 0, .slice none 0 0] 32) (Below.size XE) (Nat.ne_of_lt r7.out.lt)) (by kernel_rfl) (by kernel_rfl) (by kernel_rfl)
      have L0_6 : ∀ (wv : World) (B6 : Nat), Hid (Ext w1 wv) → Hid (Rt wv B6 4 63) → Hid (w1.heap.size ≤ B6) → wpAnyH Try.prog .any O Q9 SS 8 #[true, false, true, false, true, false, true, false, false, false, false, false] (AA.put (some 7) (.pointer (some ⟨B6, 0, none⟩))) wv := by
        intro wv B6 hX r6 s6
        have hO1 := hO.out
        have hQ1 := hQ.out
        have hA1 := hA.out
        subst hO1
        subst hQ1
        subst hA1
        have XE := hX.out
        try simp only [Act.put, List.getElem_toArray, List.getElem_cons_succ, List.getElem_cons_zero, List.setIfInBounds_toArray, List.set_cons_zero, List.set_cons_succ]
        refine wpAnyH_ready (rs := [1, 7, 8]) (by kernel_rfl) (by simp) ?_
        refine AllReadyH.cons (o := _) rfl (fun K hK => ?_) (AllReadyH.cons (o := _) rfl (fun K hK => ?_) (AllReadyH.cons (o := _) rfl (fun K hK => ?_) AllReadyH.nil))
        · skip
          go_simp
          go_at_call 31
          refine (HEA.out _ _ (HV0.out.ext (Ext.trans b1 XE))).mono ?_
          rintro e wn ⟨vn, rfl, bn, on⟩
          go_wp2_with fail
          refine hK.out _ _ (KP.out _ (Ext.trans XE bn)) (fun _ => ?_)
          clear hK K
          try simp only [Act.put, List.getElem_toArray, List.getElem_cons_succ, List.getElem_cons_zero, List.setIfInBounds_toArray, List.set_cons_zero, List.set_cons_succ]
          exact wpAnyH_at (L1_6 wn vn B6 (Ext.trans XE bn) (on) (r6.out.ext bn) s6) (by kernel_rfl) (by kernel_rfl) (by kernel_rfl)
        · skip
          go_simp
          refine hK.out _ _ (KP.out _ (Ext.trans XE (Ext.alloc _ _))) (fun _ => ?_)
          clear hK K
          try simp only [Act.put, List.getElem_toArray, List.getElem_cons_succ, List.getElem_cons_zero, List.setIfInBounds_toArray, List.set_cons_zero, List.set_cons_succ]
          exact wpAnyH_at (L0_6_7 _ B6 wv.heap.size (Ext.trans XE (Ext.alloc wv (.cells [.slice none 0 0, .bool false, .slice none 0 0, .slice none 0 0].toArray 63))) (r6.out.ext (Ext.alloc wv (.cells [.slice none 0 0, .bool false, .slice none 0 0, .slice none 0 0].toArray 63))) s6 (Rt.new wv [.slice none 0 0, .bool false, .slice none 0 0, .slice none 0 0] 63) (Below.size XE) (Nat.ne_of_lt r6.out.lt)) (by kernel_rfl) (by kernel_rfl) (by kernel_rfl)
        · skip
          go_simp
          refine hK.out _ _ (KP.out _ (Ext.trans XE (Ext.alloc _ _))) (fun _ => ?_)
          clear hK K
          try simp only [Act.put, List.getElem_toArray, List.getElem_cons_succ, List.getElem_cons_zero, List.setIfInBounds_toArray, List.set_cons_zero, List.set_cons_succ]
          exact wpAnyH_at (L0_6_8 _ B6 wv.heap.size (Ext.trans XE (Ext.alloc wv (.cells [.bool false, .slice none 0 0, .slice none 0 0].toArray 32))) (r6.out.ext (Ext.alloc wv (.cells [.bool false, .slice none 0 0, .slice none 0 0].toArray 32))) s6 (Rt.new wv [.bool false, .slice none 0 0, .slice none 0 0] 32) (Below.size XE) (Nat.ne_of_lt r6.out.lt)) (by kernel_rfl) (by kernel_rfl) (by kernel_rfl)
      have L1_ : ∀ (wv : World) (v1 : Value), Hid (Ext w1 wv) → Hid (OwnX 0 wv v1 la ca) → wpAnyH Try.prog .any O Q9 SS 8 #[true, true, true, false, true, false, false, false, false, false, false, false] (AA.put (some 11) v1) wv := by
        intro wv v1 hX p1
        have hO1 := hO.out
        have hQ1 := hQ.out
        have hA1 := hA.out
        subst hO1
        subst hQ1
        subst hA1
        have XE := hX.out
        try simp only [Act.put, List.getElem_toArray, List.getElem_cons_succ, List.getElem_cons_zero, List.setIfInBounds_toArray, List.set_cons_zero, List.set_cons_succ]
        refine wpAnyH_ready (rs := [3, 6, 7, 8]) (by kernel_rfl) (by simp) ?_
        refine AllReadyH.cons (o := _) rfl (fun K hK => ?_) (AllReadyH.cons (o := _) rfl (fun K hK => ?_) (AllReadyH.cons (o := _) rfl (fun K hK => ?_) (AllReadyH.cons (o := _) rfl (fun K hK => ?_) AllReadyH.nil)))
        · skip
          go_simp
          go_at_call 31
          refine (HEB.out _ _ (HV1.out.ext (Ext.trans b1 XE))).mono ?_
          rintro e wn ⟨vn, rfl, bn, on⟩
          go_wp2_with fail
          refine hK.out _ _ (KP.out _ (Ext.trans XE bn)) (fun _ => ?_)
          clear hK K
          try simp only [Act.put, List.getElem_toArray, List.getElem_cons_succ, List.getElem_cons_zero, List.setIfInBounds_toArray, List.set_cons_zero, List.set_cons_succ]
          exact wpAnyH_at (L2_ wn v1 vn (Ext.trans XE bn) (p1.out.ext bn) (on)) (by kernel_rfl) (by kernel_rfl) (by kernel_rfl)
        · skip
          go_simp
          refine hK.out _ _ (KP.out _ (Ext.trans XE (Ext.alloc _ _))) (fun _ => ?_)
          clear hK K
          try simp only [Act.put, List.getElem_toArray, List.getElem_cons_succ, List.getElem_cons_zero, List.setIfInBounds_toArray, List.set_cons_zero, List.set_cons_succ]
          exact wpAnyH_at (L1_6 _ v1 wv.heap.size (Ext.trans XE (Ext.alloc wv (.cells [.slice none 0 0, .bool false, .slice none 0 0, .slice none 0 0].toArray 63))) (p1.out.ext (Ext.alloc wv (.cells [.slice none 0 0, .bool false, .slice none 0 0, .slice none 0 0].toArray 63))) (Rt.new wv [.slice none 0 0, .bool false, .slice none 0 0, .slice none 0 0] 63) (Below.size XE)) (by kernel_rfl) (by kernel_rfl) (by kernel_rfl)
        · skip
          go_simp
          refine hK.out _ _ (KP.out _ (Ext.trans XE (Ext.alloc _ _))) (fun _ => ?_)
          clear hK K
          try simp only [Act.put, List.getElem_toArray, List.getElem_cons_succ, List.getElem_cons_zero, List.setIfInBounds_toArray, List.set_cons_zero, List.set_cons_succ]
          exact wpAnyH_at (L1_7 _ v1 wv.heap.size (Ext.trans XE (Ext.alloc wv (.cells [.slice none 0 0, .bool false, .slice none 0 0, .slice none 0 0].toArray 63))) (p1.out.ext (Ext.alloc wv (.cells [.slice none 0 0, .bool false, .slice none 0 0, .slice none 0 0].toArray 63))) (Rt.new wv [.slice none 0 0, .bool false, .slice none 0 0, .slice none 0 0] 63) (Below.size XE)) (by kernel_rfl) (by kernel_rfl) (by kernel_rfl)
        · skip
          go_simp
          refine hK.out _ _ (KP.out _ (Ext.trans XE (Ext.alloc _ _))) (fun _ => ?_)
          clear hK K
          try simp only [Act.put, List.getElem_toArray, List.getElem_cons_succ, List.getElem_cons_zero, List.setIfInBounds_toArray, List.set_cons_zero, List.set_cons_succ]
          exact wpAnyH_at (L1_8 _ v1 wv.heap.size (Ext.trans XE (Ext.alloc wv (.cells [.bool false, .slice none 0 0, .slice none 0 0].toArray 32))) (p1.out.ext (Ext.alloc wv (.cells [.bool false, .slice none 0 0, .slice none 0 0].toArray 32))) (Rt.new wv [.bool false, .slice none 0 0, .slice none 0 0] 32) (Below.size XE)) (by kernel_rfl) (by kernel_rfl) (by kernel_rfl)
      have L0_ : ∀ (wv : World), Hid (Ext w1 wv) → wpAnyH Try.prog .any O Q9 SS 9 #[true, false, true, false, true, false, false, false, false, false, false, false] AA wv := by
        intro wv hX
        have hO1 := hO.out
        have hQ1 := hQ.out
        have hA1 := hA.out
        subst hO1
        subst hQ1
        subst hA1
        have XE := hX.out
        try simp only [Act.put, List.getElem_toArray, List.getElem_cons_succ, List.getElem_cons_zero, List.setIfInBounds_toArray, List.set_cons_zero, List.set_cons_succ]
        refine wpAnyH_ready (rs := [1, 6, 7, 8]) (by kernel_rfl) (by simp) ?_
        refine AllReadyH.cons (o := _) rfl (fun K hK => ?_) (AllReadyH.cons (o := _) rfl (fun K hK => ?_) (AllReadyH.cons (o := _) rfl (fun K hK => ?_) (AllReadyH.cons (o := _) rfl (fun K hK => ?_) AllReadyH.nil)))
        · skip
          go_simp
          go_at_call 31
          refine (HEA.out _ _ (HV0.out.ext (Ext.trans b1 XE))).mono ?_
          rintro e wn ⟨vn, rfl, bn, on⟩
          go_wp2_with fail
          refine hK.out _ _ (KP.out _ (Ext.trans XE bn)) (fun _ => ?_)
          clear hK K
          try simp only [Act.put, List.getElem_toArray, List.getElem_cons_succ, List.getElem_cons_zero, List.setIfInBounds_toArray, List.set_cons_zero, List.set_cons_succ]
          exact wpAnyH_at (L1_ wn vn (Ext.trans XE bn) (on)) (by kernel_rfl) (by kernel_rfl) (by kernel_rfl)
        · skip
          go_simp
          refine hK.out _ _ (KP.out _ (Ext.trans XE (Ext.alloc _ _))) (fun _ => ?_)
          clear hK K
          try simp only [Act.put, List.getElem_toArray, List.getElem_cons_succ, List.getElem_cons_zero, List.setIfInBounds_toArray, List.set_cons_zero, List.set_cons_succ]
          exact wpAnyH_at (L0_6 _ wv.heap.size (Ext.trans XE (Ext.alloc wv (.cells [.slice none 0 0, .bool false, .slice none 0 0, .slice none 0 0].toArray 63))) (Rt.new wv [.slice none 0 0, .bool false, .slice none 0 0, .slice none 0 0] 63) (Below.size XE)) (by kernel_rfl) (by kernel_rfl) (by kernel_rfl)
        · skip
          go_simp
          refine hK.out _ _ (KP.out _ (Ext.trans XE (Ext.alloc _ _))) (fun _ => ?_)
          clear hK K
          try simp only [Act.put, List.getElem_toArray, List.getElem_cons_succ, List.getElem_cons_zero, List.setIfInBounds_toArray, List.set_cons_zero, List.set_cons_succ]
          exact wpAnyH_at (L0_7 _ wv.heap.size (Ext.trans XE (Ext.alloc wv (.cells [.slice none 0 0, .bool false, .slice none 0 0, .slice none 0 0].toArray 63))) (Rt.new wv [.slice none 0 0, .bool false, .slice none 0 0, .slice none 0 0] 63) (Below.size XE)) (by kernel_rfl) (by kernel_rfl) (by kernel_rfl)
        · skip
          go_simp
          refine hK.out _ _ (KP.out _ (Ext.trans XE (Ext.alloc _ _))) (fun _ => ?_)
          clear hK K
          try simp only [Act.put, List.getElem_toArray, List.getElem_cons_succ, List.getElem_cons_zero, List.setIfInBounds_toArray, List.set_cons_zero, List.set_cons_succ]
          exact wpAnyH_at (L0_8 _ wv.heap.size (Ext.trans XE (Ext.alloc wv (.cells [.bool false, .slice none 0 0, .slice none 0 0].toArray 32))) (Rt.new wv [.bool false, .slice none 0 0, .slice none 0 0] 32) (Below.size XE)) (by kernel_rfl) (by kernel_rfl) (by kernel_rfl)
      have hO1 := hO.out
      have hQ1 := hQ.out
      have hA1 := hA.out
      subst hO1
      subst hQ1
      subst hA1
      have hS1 := hSS.out
      subst hS1
      exact wpAnyH_at (L0_ w1.drew (drew_ext w1)) (by kernel_rfl) (by kernel_rfl) (by kernel_rfl)
  case rest =>
    as_aux_lemma =>
      obtain ⟨B6, B7, B8, x0, x1, x2, x3, y0, y1, y2, y3, z0, z1, z2, rfl, rfl, rfl, b4, C6, C7, C8, OA, OB, OC⟩ := hcut
      generalize wc = w4 at *
      have b04 := Ext.trans b1 b4
      have D1 := Lib.hid (C1.out.ext b4)
      have D2 := Lib.hid (C2.out.ext b4)
      clear C1 C2 C3
      have HTX : Hid (∀ w', Ext w4 w' → Calls Try.prog 33 #[.agg #[x0, x1, x2, x3]] w' (Gives w' fun v' w' => RdY w' v' la ca)) := fun w' x => told8_ok (OA.out.rd.ext x) ZA.out.okx
      have HTY : Hid (∀ w', Ext w4 w' → Calls Try.prog 33 #[.agg #[y0, y1, y2, y3]] w' (Gives w' fun v' w' => RdY w' v' lb cb)) := fun w' x => told8_ok (OB.out.rd.ext x) ZB.out.okx
      have HTR : Hid (∀ w', Ext w4 w' → Calls Try.prog 25 #[.agg #[z0, z1, z2]] w' (Gives w' fun v' w' => OwnP 4 0 w' v' r)) := fun w' x => (told_any (OC.out.rd.ext x) (ZR.out.le (by decide))).mono fun _ _ ⟨v, e, b, o⟩ => ⟨v, e, b, o.mono (Nat.zero_le _)⟩
      go_upto_region 2 with (fail)
      have b5 := drew_ext w4
      have XE := b5
      refine wp_region_noPanic ?_
      refine wp_region_held_drew (S := fun w' => (w'.cell? ⟨w.heap.size, 0, none⟩ = some (.slice aa m0 ka) ∧ w'.cell? ⟨w.heap.size, 1, none⟩ = some (.bool g0) ∧ w'.cell? ⟨w.heap.size, 2, none⟩ = some (t1) ∧ w'.cell? ⟨w.heap.size, 3, none⟩ = some (t2)) ∧ (w'.cell? ⟨w.heap.size + 1, 0, none⟩ = some (.slice ab m1 kb) ∧ w'.cell? ⟨w.heap.size + 1, 1, none⟩ = some (.bool g1) ∧ w'.cell? ⟨w.heap.size + 1, 2, none⟩ = some (t4) ∧ w'.cell? ⟨w.heap.size + 1, 3, none⟩ = some (t5)) ∧ (w'.cell? ⟨B6, 0, none⟩ = some (x0) ∧ w'.cell? ⟨B6, 1, none⟩ = some (x1) ∧ w'.cell? ⟨B6, 2, none⟩ = some (x2) ∧ w'.cell? ⟨B6, 3, none⟩ = some (x3)) ∧ (w'.cell? ⟨B7, 0, none⟩ = some (y0) ∧ w'.cell? ⟨B7, 1, none⟩ = some (y1) ∧ w'.cell? ⟨B7, 2, none⟩ = some (y2) ∧ w'.cell? ⟨B7, 3, none⟩ = some (y3)) ∧ (w'.cell? ⟨B8, 0, none⟩ = some (z0) ∧ w'.cell? ⟨B8, 1, none⟩ = some (z1) ∧ w'.cell? ⟨B8, 2, none⟩ = some (z2))) (by kernel_rfl) (⟨(D1.out.ext XE).c4, (D2.out.ext XE).c4, (C6.out.ext XE).c4, (C7.out.ext XE).c4, (C8.out.ext XE).c3⟩) (fun hHeld => ?_)
      refine wpAnyH_ready (rs := [0]) (by kernel_rfl) (by simp) ?_
      refine AllReadyH.cons (o := _) rfl (fun K hK => ?_) AllReadyH.nil
      go_simp
      go_at_call 36; refine (awake08).mono ?_; rintro e w6 ⟨_, rfl, b6, rfl⟩; (first | have XE := Ext.trans XE b6 | have XE := Ext.trans (Ext.trans XE (Ext.alloc _ _)) b6)
      go_wp2_with fail
      refine hK.out _ _ (⟨(D1.out.ext XE).c4, (D2.out.ext XE).c4, (C6.out.ext XE).c4, (C7.out.ext XE).c4, (C8.out.ext XE).c3⟩) (fun hHeld => ?_)
      clear hK K
      try simp only [Act.put, List.getElem_toArray, List.getElem_cons_succ, List.getElem_cons_zero, List.setIfInBounds_toArray, List.set_cons_zero, List.set_cons_succ]
      refine wpAnyH_take (i := 1) (v := ?_) rfl (by kernel_rfl) (by kernel_rfl) (by kernel_rfl) (fun _ _ _ h => h) (Or.inl ⟨by rfl, fun w0 hSw => ?_⟩) hHeld ?_
      rotate_left
      · (try dsimp only at hSw)
        go_simp
        try with_reducible rfl
      simp only [Act.put, List.getElem_toArray, List.getElem_cons_succ, List.getElem_cons_zero, List.setIfInBounds_toArray, List.set_cons_zero, List.set_cons_succ]
      refine wpAnyH_take (i := 2) (v := ?_) rfl (by kernel_rfl) (by kernel_rfl) (by kernel_rfl) (fun _ _ _ h => h) (Or.inl ⟨by rfl, fun w0 hSw => ?_⟩) hHeld ?_
      rotate_left
      · (try dsimp only at hSw)
        go_simp
        try with_reducible rfl
      simp only [Act.put, List.getElem_toArray, List.getElem_cons_succ, List.getElem_cons_zero, List.setIfInBounds_toArray, List.set_cons_zero, List.set_cons_succ]
      refine wpAnyH_take (i := 4) (v := ?_) rfl (by kernel_rfl) (by kernel_rfl) (by kernel_rfl) (fun _ _ _ h => h) (Or.inl ⟨by rfl, fun w0 hSw => ?_⟩) hHeld ?_
      rotate_left
      · (try dsimp only at hSw)
        go_simp
        try with_reducible rfl
      simp only [Act.put, List.getElem_toArray, List.getElem_cons_succ, List.getElem_cons_zero, List.setIfInBounds_toArray, List.set_cons_zero, List.set_cons_succ]
      refine wpAnyH_take (i := 9) (v := ?_) rfl (by kernel_rfl) (by kernel_rfl) (by kernel_rfl) (fun _ _ _ h => h) (Or.inl ⟨by rfl, fun w0 hSw => ?_⟩) hHeld ?_
      rotate_left
      · (try dsimp only at hSw)
        go_simp
        try with_reducible rfl
      simp only [Act.put, List.getElem_toArray, List.getElem_cons_succ, List.getElem_cons_zero, List.setIfInBounds_toArray, List.set_cons_zero, List.set_cons_succ]
      refine wpAnyH_take (i := 12) (v := ?_) rfl (by kernel_rfl) (by kernel_rfl) (by kernel_rfl) (fun _ _ _ h => h) (Or.inl ⟨by rfl, fun w0 hSw => ?_⟩) hHeld ?_
      rotate_left
      · (try dsimp only at hSw)
        go_simp
        try with_reducible rfl
      simp only [Act.put, List.getElem_toArray, List.getElem_cons_succ, List.getElem_cons_zero, List.setIfInBounds_toArray, List.set_cons_zero, List.set_cons_succ]
      refine wpAnyH_ready (rs := [3]) (by kernel_rfl) (by simp) ?_
      refine AllReadyH.cons (o := _) rfl (fun K hK => ?_) AllReadyH.nil
      go_simp
      go_at_call 31; refine (HEA.out _ _ (HV0.out.ext (Ext.trans b04 XE))).mono ?_; rintro e w7 ⟨v7, rfl, b7, o7⟩; have O7 := Lib.hid o7; clear o7; (first | have XE := Ext.trans XE b7 | have XE := Ext.trans (Ext.trans XE (Ext.alloc _ _)) b7)
      go_wp2_with fail
      refine hK.out _ _ (⟨(D1.out.ext XE).c4, (D2.out.ext XE).c4, (C6.out.ext XE).c4, (C7.out.ext XE).c4, (C8.out.ext XE).c3⟩) (fun hHeld => ?_)
      clear hK K
      try simp only [Act.put, List.getElem_toArray, List.getElem_cons_succ, List.getElem_cons_zero, List.setIfInBounds_toArray, List.set_cons_zero, List.set_cons_succ]
      refine wpAnyH_ready (rs := [5]) (by kernel_rfl) (by simp) ?_
      refine AllReadyH.cons (o := _) rfl (fun K hK => ?_) AllReadyH.nil
      go_simp
      go_at_call 31; refine (HEB.out _ _ (HV1.out.ext (Ext.trans b04 XE))).mono ?_; rintro e w8 ⟨v8, rfl, b8, o8⟩; have O8 := Lib.hid o8; clear o8; (first | have XE := Ext.trans XE b8 | have XE := Ext.trans (Ext.trans XE (Ext.alloc _ _)) b8)
      go_wp2_with fail
      refine hK.out _ _ (⟨(D1.out.ext XE).c4, (D2.out.ext XE).c4, (C6.out.ext XE).c4, (C7.out.ext XE).c4, (C8.out.ext XE).c3⟩) (fun hHeld => ?_)
      clear hK K
      try simp only [Act.put, List.getElem_toArray, List.getElem_cons_succ, List.getElem_cons_zero, List.setIfInBounds_toArray, List.set_cons_zero, List.set_cons_succ]
      refine wpAnyH_ready (rs := [6]) (by kernel_rfl) (by simp) ?_
      refine AllReadyH.cons (o := _) rfl (fun K hK => ?_) AllReadyH.nil
      go_simp
      go_at_call 40; refine (rep_add (O7.out.rd.ext b8) O8.out.rd ZA.out ZB.out).mono ?_; rintro e w9 ⟨v9, rfl, b9, o9⟩; have O9 := Lib.hid o9; clear o9; (first | have XE := Ext.trans XE b9 | have XE := Ext.trans (Ext.trans XE (Ext.alloc _ _)) b9)
      go_wp2_with fail
      refine hK.out _ _ (⟨(D1.out.ext XE).c4, (D2.out.ext XE).c4, (C6.out.ext XE).c4, (C7.out.ext XE).c4, (C8.out.ext XE).c3⟩) (fun hHeld => ?_)
      clear hK K
      try simp only [Act.put, List.getElem_toArray, List.getElem_cons_succ, List.getElem_cons_zero, List.setIfInBounds_toArray, List.set_cons_zero, List.set_cons_succ]
      refine wpAnyH_ready (rs := [7]) (by kernel_rfl) (by simp) ?_
      refine AllReadyH.cons (o := _) rfl (fun K hK => ?_) AllReadyH.nil
      go_simp
      go_at_call 33; refine (rep_told O9.out).mono ?_; rintro e w10 ⟨v10, rfl, b10, o10⟩; have O10 := Lib.hid o10; clear o10; (first | have XE := Ext.trans XE b10 | have XE := Ext.trans (Ext.trans XE (Ext.alloc _ _)) b10)
      go_wp2_with fail
      refine hK.out _ _ (⟨(D1.out.ext XE).c4, (D2.out.ext XE).c4, (C6.out.ext XE).c4, (C7.out.ext XE).c4, (C8.out.ext XE).c3⟩) (fun hHeld => ?_)
      clear hK K
      try simp only [Act.put, List.getElem_toArray, List.getElem_cons_succ, List.getElem_cons_zero, List.setIfInBounds_toArray, List.set_cons_zero, List.set_cons_succ]
      refine wpAnyH_ready (rs := [8]) (by kernel_rfl) (by simp) ?_
      refine AllReadyH.cons (o := _) rfl (fun K hK => ?_) AllReadyH.nil
      go_simp
      go_at_call 41; refine (I1.out _).mono ?_; rintro e w11 ⟨v11, rfl, b11, o11⟩; have O11 := Lib.hid o11; clear o11; (first | have XE := Ext.trans XE b11 | have XE := Ext.trans (Ext.trans XE (Ext.alloc _ _)) b11)
      go_wp2_with fail
      refine hK.out _ _ (⟨(D1.out.ext XE).c4, (D2.out.ext XE).c4, (C6.out.ext XE).c4, (C7.out.ext XE).c4, (C8.out.ext XE).c3⟩) (fun hHeld => ?_)
      clear hK K
      try simp only [Act.put, List.getElem_toArray, List.getElem_cons_succ, List.getElem_cons_zero, List.setIfInBounds_toArray, List.set_cons_zero, List.set_cons_succ]
      refine wpAnyH_ready (rs := [10]) (by kernel_rfl) (by simp) ?_
      refine AllReadyH.cons (o := _) rfl (fun K hK => ?_) AllReadyH.nil
      go_simp
      go_at_call 33; refine (HTX.out _ XE).mono ?_; rintro e w12 ⟨v12, rfl, b12, o12⟩; have O12 := Lib.hid o12; clear o12; (first | have XE := Ext.trans XE b12 | have XE := Ext.trans (Ext.trans XE (Ext.alloc _ _)) b12)
      go_wp2_with fail
      refine hK.out _ _ (⟨(D1.out.ext XE).c4, (D2.out.ext XE).c4, (C6.out.ext XE).c4, (C7.out.ext XE).c4, (C8.out.ext XE).c3⟩) (fun hHeld => ?_)
      clear hK K
      try simp only [Act.put, List.getElem_toArray, List.getElem_cons_succ, List.getElem_cons_zero, List.setIfInBounds_toArray, List.set_cons_zero, List.set_cons_succ]
      refine wpAnyH_ready (rs := [11]) (by kernel_rfl) (by simp) ?_
      refine AllReadyH.cons (o := _) rfl (fun K hK => ?_) AllReadyH.nil
      go_simp
      go_at_call 41; refine (I1.out _).mono ?_; rintro e w13 ⟨v13, rfl, b13, o13⟩; have O13 := Lib.hid o13; clear o13; (first | have XE := Ext.trans XE b13 | have XE := Ext.trans (Ext.trans XE (Ext.alloc _ _)) b13)
      go_wp2_with fail
      refine hK.out _ _ (⟨(D1.out.ext XE).c4, (D2.out.ext XE).c4, (C6.out.ext XE).c4, (C7.out.ext XE).c4, (C8.out.ext XE).c3⟩) (fun hHeld => ?_)
      clear hK K
      try simp only [Act.put, List.getElem_toArray, List.getElem_cons_succ, List.getElem_cons_zero, List.setIfInBounds_toArray, List.set_cons_zero, List.set_cons_succ]
      refine wpAnyH_ready (rs := [13]) (by kernel_rfl) (by simp) ?_
      refine AllReadyH.cons (o := _) rfl (fun K hK => ?_) AllReadyH.nil
      go_simp
      go_at_call 33; refine (HTY.out _ XE).mono ?_; rintro e w14 ⟨v14, rfl, b14, o14⟩; have O14 := Lib.hid o14; clear o14; (first | have XE := Ext.trans XE b14 | have XE := Ext.trans (Ext.trans XE (Ext.alloc _ _)) b14)
      go_wp2_with fail
      refine hK.out _ _ (⟨(D1.out.ext XE).c4, (D2.out.ext XE).c4, (C6.out.ext XE).c4, (C7.out.ext XE).c4, (C8.out.ext XE).c3⟩) (fun hHeld => ?_)
      clear hK K
      try simp only [Act.put, List.getElem_toArray, List.getElem_cons_succ, List.getElem_cons_zero, List.setIfInBounds_toArray, List.set_cons_zero, List.set_cons_succ]
      refine wpAnyH_ready (rs := [14]) (by kernel_rfl) (by simp) ?_
      refine AllReadyH.cons (o := _) rfl (fun K hK => ?_) AllReadyH.nil
      go_simp
      go_at_call 39; refine (rep_means (O10.out.ext (Ext.trans b11 (Ext.trans b12 (Ext.trans b13 b14)))) (O11.out.ext (Ext.trans b12 (Ext.trans b13 b14))) (O12.out.ext (Ext.trans b13 b14)) (O13.out.ext b14) O14.out Z1.out ZA.out.okx Z1.out ZB.out.okx M1.out.1 M1.out.2).mono ?_; rintro e w15 ⟨_, rfl, b15, rfl⟩; (first | have XE := Ext.trans XE b15 | have XE := Ext.trans (Ext.trans XE (Ext.alloc _ _)) b15)
      go_wp2_with fail
      refine hK.out _ _ (⟨(D1.out.ext XE).c4, (D2.out.ext XE).c4, (C6.out.ext XE).c4, (C7.out.ext XE).c4, (C8.out.ext XE).c3⟩) (fun hHeld => ?_)
      clear hK K
      try simp only [Act.put, List.getElem_toArray, List.getElem_cons_succ, List.getElem_cons_zero, List.setIfInBounds_toArray, List.set_cons_zero, List.set_cons_succ]
      refine wpAnyH_take (i := 15) (v := ?_) rfl (by kernel_rfl) (by kernel_rfl) (by kernel_rfl) (fun _ _ _ h => h) (Or.inl ⟨by rfl, fun w0 hSw => ?_⟩) hHeld ?_
      rotate_left
      · (try dsimp only at hSw)
        go_simp
        try with_reducible rfl
      simp only [Act.put, List.getElem_toArray, List.getElem_cons_succ, List.getElem_cons_zero, List.setIfInBounds_toArray, List.set_cons_zero, List.set_cons_succ]
      refine wpAnyH_take (i := 16) (v := ?_) rfl (by kernel_rfl) (by kernel_rfl) (by kernel_rfl) (fun _ _ _ h => h) (Or.inl ⟨by rfl, fun w0 hSw => ?_⟩) hHeld ?_
      rotate_left
      · (try dsimp only at hSw)
        go_simp
        try with_reducible rfl
      simp only [Act.put, List.getElem_toArray, List.getElem_cons_succ, List.getElem_cons_zero, List.setIfInBounds_toArray, List.set_cons_zero, List.set_cons_succ]
      refine wpAnyH_take (i := 17) (v := ?_) rfl (by kernel_rfl) (by kernel_rfl) (by kernel_rfl) (fun _ _ _ h => h) (Or.inl ⟨by rfl, fun w0 hSw => ?_⟩) hHeld ?_
      rotate_left
      · (try dsimp only at hSw)
        go_simp
        try with_reducible rfl
      simp only [Act.put, List.getElem_toArray, List.getElem_cons_succ, List.getElem_cons_zero, List.setIfInBounds_toArray, List.set_cons_zero, List.set_cons_succ]
      refine wpAnyH_take (i := 19) (v := ?_) rfl (by kernel_rfl) (by kernel_rfl) (by kernel_rfl) (fun _ _ _ h => h) (Or.inl ⟨by rfl, fun w0 hSw => ?_⟩) hHeld ?_
      rotate_left
      · (try dsimp only at hSw)
        go_simp
        try with_reducible rfl
      simp only [Act.put, List.getElem_toArray, List.getElem_cons_succ, List.getElem_cons_zero, List.setIfInBounds_toArray, List.set_cons_zero, List.set_cons_succ]
      refine wpAnyH_take (i := 24) (v := ?_) rfl (by kernel_rfl) (by kernel_rfl) (by kernel_rfl) (fun _ _ _ h => h) (Or.inl ⟨by rfl, fun w0 hSw => ?_⟩) hHeld ?_
      rotate_left
      · (try dsimp only at hSw)
        go_simp
        try with_reducible rfl
      simp only [Act.put, List.getElem_toArray, List.getElem_cons_succ, List.getElem_cons_zero, List.setIfInBounds_toArray, List.set_cons_zero, List.set_cons_succ]
      refine wpAnyH_take (i := 27) (v := ?_) rfl (by kernel_rfl) (by kernel_rfl) (by kernel_rfl) (fun _ _ _ h => h) (Or.inl ⟨by rfl, fun w0 hSw => ?_⟩) hHeld ?_
      rotate_left
      · (try dsimp only at hSw)
        go_simp
        try with_reducible rfl
      simp only [Act.put, List.getElem_toArray, List.getElem_cons_succ, List.getElem_cons_zero, List.setIfInBounds_toArray, List.set_cons_zero, List.set_cons_succ]
      refine wpAnyH_ready (rs := [18]) (by kernel_rfl) (by simp) ?_
      refine AllReadyH.cons (o := _) rfl (fun K hK => ?_) AllReadyH.nil
      go_simp
      go_at_call 31; refine (HEA.out _ _ (HV0.out.ext (Ext.trans b04 XE))).mono ?_; rintro e w16 ⟨v16, rfl, b16, o16⟩; have O16 := Lib.hid o16; clear o16; (first | have XE := Ext.trans XE b16 | have XE := Ext.trans (Ext.trans XE (Ext.alloc _ _)) b16)
      go_wp2_with fail
      refine hK.out _ _ (⟨(D1.out.ext XE).c4, (D2.out.ext XE).c4, (C6.out.ext XE).c4, (C7.out.ext XE).c4, (C8.out.ext XE).c3⟩) (fun hHeld => ?_)
      clear hK K
      try simp only [Act.put, List.getElem_toArray, List.getElem_cons_succ, List.getElem_cons_zero, List.setIfInBounds_toArray, List.set_cons_zero, List.set_cons_succ]
      refine wpAnyH_ready (rs := [20]) (by kernel_rfl) (by simp) ?_
      refine AllReadyH.cons (o := _) rfl (fun K hK => ?_) AllReadyH.nil
      go_simp
      go_at_call 31; refine (HEB.out _ _ (HV1.out.ext (Ext.trans b04 XE))).mono ?_; rintro e w17 ⟨v17, rfl, b17, o17⟩; have O17 := Lib.hid o17; clear o17; (first | have XE := Ext.trans XE b17 | have XE := Ext.trans (Ext.trans XE (Ext.alloc _ _)) b17)
      go_wp2_with fail
      refine hK.out _ _ (⟨(D1.out.ext XE).c4, (D2.out.ext XE).c4, (C6.out.ext XE).c4, (C7.out.ext XE).c4, (C8.out.ext XE).c3⟩) (fun hHeld => ?_)
      clear hK K
      try simp only [Act.put, List.getElem_toArray, List.getElem_cons_succ, List.getElem_cons_zero, List.setIfInBounds_toArray, List.set_cons_zero, List.set_cons_succ]
      refine wpAnyH_ready (rs := [21]) (by kernel_rfl) (by simp) ?_
      refine AllReadyH.cons (o := _) rfl (fun K hK => ?_) AllReadyH.nil
      go_simp
      go_at_call 42; refine (rep_sub (O16.out.rd.ext b17) O17.out.rd ZA.out ZB.out).mono ?_; rintro e w18 ⟨v18, rfl, b18, o18⟩; have O18 := Lib.hid o18; clear o18; (first | have XE := Ext.trans XE b18 | have XE := Ext.trans (Ext.trans XE (Ext.alloc _ _)) b18)
      go_wp2_with fail
      refine hK.out _ _ (⟨(D1.out.ext XE).c4, (D2.out.ext XE).c4, (C6.out.ext XE).c4, (C7.out.ext XE).c4, (C8.out.ext XE).c3⟩) (fun hHeld => ?_)
      clear hK K
      try simp only [Act.put, List.getElem_toArray, List.getElem_cons_succ, List.getElem_cons_zero, List.setIfInBounds_toArray, List.set_cons_zero, List.set_cons_succ]
      refine wpAnyH_ready (rs := [22]) (by kernel_rfl) (by simp) ?_
      refine AllReadyH.cons (o := _) rfl (fun K hK => ?_) AllReadyH.nil
      go_simp
      go_at_call 33; refine (rep_told O18.out).mono ?_; rintro e w19 ⟨v19, rfl, b19, o19⟩; have O19 := Lib.hid o19; clear o19; (first | have XE := Ext.trans XE b19 | have XE := Ext.trans (Ext.trans XE (Ext.alloc _ _)) b19)
      go_wp2_with fail
      refine hK.out _ _ (⟨(D1.out.ext XE).c4, (D2.out.ext XE).c4, (C6.out.ext XE).c4, (C7.out.ext XE).c4, (C8.out.ext XE).c3⟩) (fun hHeld => ?_)
      clear hK K
      try simp only [Act.put, List.getElem_toArray, List.getElem_cons_succ, List.getElem_cons_zero, List.setIfInBounds_toArray, List.set_cons_zero, List.set_cons_succ]
      refine wpAnyH_ready (rs := [23]) (by kernel_rfl) (by simp) ?_
      refine AllReadyH.cons (o := _) rfl (fun K hK => ?_) AllReadyH.nil
      go_simp
      go_at_call 41; refine (I1.out _).mono ?_; rintro e w20 ⟨v20, rfl, b20, o20⟩; have O20 := Lib.hid o20; clear o20; (first | have XE := Ext.trans XE b20 | have XE := Ext.trans (Ext.trans XE (Ext.alloc _ _)) b20)
      go_wp2_with fail
      refine hK.out _ _ (⟨(D1.out.ext XE).c4, (D2.out.ext XE).c4, (C6.out.ext XE).c4, (C7.out.ext XE).c4, (C8.out.ext XE).c3⟩) (fun hHeld => ?_)
      clear hK K
      try simp only [Act.put, List.getElem_toArray, List.getElem_cons_succ, List.getElem_cons_zero, List.setIfInBounds_toArray, List.set_cons_zero, List.set_cons_succ]
      refine wpAnyH_ready (rs := [25]) (by kernel_rfl) (by simp) ?_
      refine AllReadyH.cons (o := _) rfl (fun K hK => ?_) AllReadyH.nil
      go_simp
      go_at_call 33; refine (HTX.out _ XE).mono ?_; rintro e w21 ⟨v21, rfl, b21, o21⟩; have O21 := Lib.hid o21; clear o21; (first | have XE := Ext.trans XE b21 | have XE := Ext.trans (Ext.trans XE (Ext.alloc _ _)) b21)
      go_wp2_with fail
      refine hK.out _ _ (⟨(D1.out.ext XE).c4, (D2.out.ext XE).c4, (C6.out.ext XE).c4, (C7.out.ext XE).c4, (C8.out.ext XE).c3⟩) (fun hHeld => ?_)
      clear hK K
      try simp only [Act.put, List.getElem_toArray, List.getElem_cons_succ, List.getElem_cons_zero, List.setIfInBounds_toArray, List.set_cons_zero, List.set_cons_succ]
      refine wpAnyH_ready (rs := [26]) (by kernel_rfl) (by simp) ?_
      refine AllReadyH.cons (o := _) rfl (fun K hK => ?_) AllReadyH.nil
      go_simp
      go_at_call 41; refine (I2.out _).mono ?_; rintro e w22 ⟨v22, rfl, b22, o22⟩; have O22 := Lib.hid o22; clear o22; (first | have XE := Ext.trans XE b22 | have XE := Ext.trans (Ext.trans XE (Ext.alloc _ _)) b22)
      go_wp2_with fail
      refine hK.out _ _ (⟨(D1.out.ext XE).c4, (D2.out.ext XE).c4, (C6.out.ext XE).c4, (C7.out.ext XE).c4, (C8.out.ext XE).c3⟩) (fun hHeld => ?_)
      clear hK K
      try simp only [Act.put, List.getElem_toArray, List.getElem_cons_succ, List.getElem_cons_zero, List.setIfInBounds_toArray, List.set_cons_zero, List.set_cons_succ]
      refine wpAnyH_ready (rs := [28]) (by kernel_rfl) (by simp) ?_
      refine AllReadyH.cons (o := _) rfl (fun K hK => ?_) AllReadyH.nil
      go_simp
      go_at_call 33; refine (HTY.out _ XE).mono ?_; rintro e w23 ⟨v23, rfl, b23, o23⟩; have O23 := Lib.hid o23; clear o23; (first | have XE := Ext.trans XE b23 | have XE := Ext.trans (Ext.trans XE (Ext.alloc _ _)) b23)
      go_wp2_with fail
      refine hK.out _ _ (⟨(D1.out.ext XE).c4, (D2.out.ext XE).c4, (C6.out.ext XE).c4, (C7.out.ext XE).c4, (C8.out.ext XE).c3⟩) (fun hHeld => ?_)
      clear hK K
      try simp only [Act.put, List.getElem_toArray, List.getElem_cons_succ, List.getElem_cons_zero, List.setIfInBounds_toArray, List.set_cons_zero, List.set_cons_succ]
      refine wpAnyH_ready (rs := [29]) (by kernel_rfl) (by simp) ?_
      refine AllReadyH.cons (o := _) rfl (fun K hK => ?_) AllReadyH.nil
      go_simp
      go_at_call 39; refine (rep_means (O19.out.ext (Ext.trans b20 (Ext.trans b21 (Ext.trans b22 b23)))) (O20.out.ext (Ext.trans b21 (Ext.trans b22 b23))) (O21.out.ext (Ext.trans b22 b23)) (O22.out.ext b23) O23.out Z1.out ZA.out.okx Z2.out ZB.out.okx M2.out.1 M2.out.2).mono ?_; rintro e w24 ⟨_, rfl, b24, rfl⟩; (first | have XE := Ext.trans XE b24 | have XE := Ext.trans (Ext.trans XE (Ext.alloc _ _)) b24)
      go_wp2_with fail
      refine hK.out _ _ (⟨(D1.out.ext XE).c4, (D2.out.ext XE).c4, (C6.out.ext XE).c4, (C7.out.ext XE).c4, (C8.out.ext XE).c3⟩) (fun hHeld => ?_)
      clear hK K
      try simp only [Act.put, List.getElem_toArray, List.getElem_cons_succ, List.getElem_cons_zero, List.setIfInBounds_toArray, List.set_cons_zero, List.set_cons_succ]
      refine wpAnyH_take (i := 30) (v := ?_) rfl (by kernel_rfl) (by kernel_rfl) (by kernel_rfl) (fun _ _ _ h => h) (Or.inl ⟨by rfl, fun w0 hSw => ?_⟩) hHeld ?_
      rotate_left
      · (try dsimp only at hSw)
        go_simp
        try with_reducible rfl
      simp only [Act.put, List.getElem_toArray, List.getElem_cons_succ, List.getElem_cons_zero, List.setIfInBounds_toArray, List.set_cons_zero, List.set_cons_succ]
      refine wpAnyH_take (i := 31) (v := ?_) rfl (by kernel_rfl) (by kernel_rfl) (by kernel_rfl) (fun _ _ _ h => h) (Or.inl ⟨by rfl, fun w0 hSw => ?_⟩) hHeld ?_
      rotate_left
      · (try dsimp only at hSw)
        go_simp
        try with_reducible rfl
      simp only [Act.put, List.getElem_toArray, List.getElem_cons_succ, List.getElem_cons_zero, List.setIfInBounds_toArray, List.set_cons_zero, List.set_cons_succ]
      refine wpAnyH_take (i := 32) (v := ?_) rfl (by kernel_rfl) (by kernel_rfl) (by kernel_rfl) (fun _ _ _ h => h) (Or.inl ⟨by rfl, fun w0 hSw => ?_⟩) hHeld ?_
      rotate_left
      · (try dsimp only at hSw)
        go_simp
        try with_reducible rfl
      simp only [Act.put, List.getElem_toArray, List.getElem_cons_succ, List.getElem_cons_zero, List.setIfInBounds_toArray, List.set_cons_zero, List.set_cons_succ]
      refine wpAnyH_take (i := 33) (v := ?_) rfl (by kernel_rfl) (by kernel_rfl) (by kernel_rfl) (fun _ _ _ h => h) (Or.inl ⟨by rfl, fun w0 hSw => ?_⟩) hHeld ?_
      rotate_left
      · (try dsimp only at hSw)
        go_simp
        try with_reducible rfl
      simp only [Act.put, List.getElem_toArray, List.getElem_cons_succ, List.getElem_cons_zero, List.setIfInBounds_toArray, List.set_cons_zero, List.set_cons_succ]
      refine wpAnyH_take (i := 37) (v := ?_) rfl (by kernel_rfl) (by kernel_rfl) (by kernel_rfl) (fun _ _ _ h => h) (Or.inl ⟨by rfl, fun w0 hSw => ?_⟩) hHeld ?_
      rotate_left
      · (try dsimp only at hSw)
        go_simp
        try with_reducible rfl
      simp only [Act.put, List.getElem_toArray, List.getElem_cons_succ, List.getElem_cons_zero, List.setIfInBounds_toArray, List.set_cons_zero, List.set_cons_succ]
      refine wpAnyH_take (i := 39) (v := ?_) rfl (by kernel_rfl) (by kernel_rfl) (by kernel_rfl) (fun _ _ _ h => h) (Or.inl ⟨by rfl, fun w0 hSw => ?_⟩) hHeld ?_
      rotate_left
      · (try dsimp only at hSw)
        go_simp
        try with_reducible rfl
      simp only [Act.put, List.getElem_toArray, List.getElem_cons_succ, List.getElem_cons_zero, List.setIfInBounds_toArray, List.set_cons_zero, List.set_cons_succ]
      refine wpAnyH_take (i := 42) (v := ?_) rfl (by kernel_rfl) (by kernel_rfl) (by kernel_rfl) (fun _ _ _ h => h) (Or.inl ⟨by rfl, fun w0 hSw => ?_⟩) hHeld ?_
      rotate_left
      · (try dsimp only at hSw)
        go_simp
        try with_reducible rfl
      simp only [Act.put, List.getElem_toArray, List.getElem_cons_succ, List.getElem_cons_zero, List.setIfInBounds_toArray, List.set_cons_zero, List.set_cons_succ]
      refine wpAnyH_ready (rs := [34]) (by kernel_rfl) (by simp) ?_
      refine AllReadyH.cons (o := _) rfl (fun K hK => ?_) AllReadyH.nil
      go_simp
      go_at_call 31; refine (HEA.out _ _ (HV0.out.ext (Ext.trans b04 XE))).mono ?_; rintro e w25 ⟨v25, rfl, b25, o25⟩; have O25 := Lib.hid o25; clear o25; (first | have XE := Ext.trans XE b25 | have XE := Ext.trans (Ext.trans XE (Ext.alloc _ _)) b25)
      go_wp2_with fail
      refine hK.out _ _ (⟨(D1.out.ext XE).c4, (D2.out.ext XE).c4, (C6.out.ext XE).c4, (C7.out.ext XE).c4, (C8.out.ext XE).c3⟩) (fun hHeld => ?_)
      clear hK K
      try simp only [Act.put, List.getElem_toArray, List.getElem_cons_succ, List.getElem_cons_zero, List.setIfInBounds_toArray, List.set_cons_zero, List.set_cons_succ]
      refine wpAnyH_ready (rs := [35]) (by kernel_rfl) (by simp) ?_
      refine AllReadyH.cons (o := _) rfl (fun K hK => ?_) AllReadyH.nil
      go_simp
      go_at_call 43; refine (rep_scale ((OC.out.ext XE)) O25.out.rd ZR.out ZA.out).mono ?_; rintro e w26 ⟨v26, rfl, b26, o26⟩; have O26 := Lib.hid o26; clear o26; (first | have XE := Ext.trans XE b26 | have XE := Ext.trans (Ext.trans XE (Ext.alloc _ _)) b26)
      go_wp2_with fail
      refine hK.out _ _ (⟨(D1.out.ext XE).c4, (D2.out.ext XE).c4, (C6.out.ext XE).c4, (C7.out.ext XE).c4, (C8.out.ext XE).c3⟩) (fun hHeld => ?_)
      clear hK K
      try simp only [Act.put, List.getElem_toArray, List.getElem_cons_succ, List.getElem_cons_zero, List.setIfInBounds_toArray, List.set_cons_zero, List.set_cons_succ]
      refine wpAnyH_ready (rs := [36]) (by kernel_rfl) (by simp) ?_
      refine AllReadyH.cons (o := _) rfl (fun K hK => ?_) AllReadyH.nil
      go_simp
      go_at_call 33; refine (rep_told O26.out).mono ?_; rintro e w27 ⟨v27, rfl, b27, o27⟩; have O27 := Lib.hid o27; clear o27; (first | have XE := Ext.trans XE b27 | have XE := Ext.trans (Ext.trans XE (Ext.alloc _ _)) b27)
      go_wp2_with fail
      refine hK.out _ _ (⟨(D1.out.ext XE).c4, (D2.out.ext XE).c4, (C6.out.ext XE).c4, (C7.out.ext XE).c4, (C8.out.ext XE).c3⟩) (fun hHeld => ?_)
      clear hK K
      try simp only [Act.put, List.getElem_toArray, List.getElem_cons_succ, List.getElem_cons_zero, List.setIfInBounds_toArray, List.set_cons_zero, List.set_cons_succ]
      refine wpAnyH_ready (rs := [38]) (by kernel_rfl) (by simp) ?_
      refine AllReadyH.cons (o := _) rfl (fun K hK => ?_) AllReadyH.nil
      go_simp
      go_at_call 25; refine (HTR.out _ XE).mono ?_; rintro e w28 ⟨v28, rfl, b28, o28⟩; have O28 := Lib.hid o28; clear o28; (first | have XE := Ext.trans XE b28 | have XE := Ext.trans (Ext.trans XE (Ext.alloc _ _)) b28)
      go_wp2_with fail
      refine hK.out _ _ (⟨(D1.out.ext XE).c4, (D2.out.ext XE).c4, (C6.out.ext XE).c4, (C7.out.ext XE).c4, (C8.out.ext XE).c3⟩) (fun hHeld => ?_)
      clear hK K
      try simp only [Act.put, List.getElem_toArray, List.getElem_cons_succ, List.getElem_cons_zero, List.setIfInBounds_toArray, List.set_cons_zero, List.set_cons_succ]
      refine wpAnyH_ready (rs := [40]) (by kernel_rfl) (by simp) ?_
      refine AllReadyH.cons (o := _) rfl (fun K hK => ?_) AllReadyH.nil
      go_simp
      go_at_call 33; refine (HTX.out _ XE).mono ?_; rintro e w29 ⟨v29, rfl, b29, o29⟩; have O29 := Lib.hid o29; clear o29; (first | have XE := Ext.trans XE b29 | have XE := Ext.trans (Ext.trans XE (Ext.alloc _ _)) b29)
      go_wp2_with fail
      refine hK.out _ _ (⟨(D1.out.ext XE).c4, (D2.out.ext XE).c4, (C6.out.ext XE).c4, (C7.out.ext XE).c4, (C8.out.ext XE).c3⟩) (fun hHeld => ?_)
      clear hK K
      try simp only [Act.put, List.getElem_toArray, List.getElem_cons_succ, List.getElem_cons_zero, List.setIfInBounds_toArray, List.set_cons_zero, List.set_cons_succ]
      refine wpAnyH_ready (rs := [41]) (by kernel_rfl) (by simp) ?_
      refine AllReadyH.cons (o := _) rfl (fun K hK => ?_) AllReadyH.nil
      go_simp
      go_at_call 41; refine (I3.out _).mono ?_; rintro e w30 ⟨v30, rfl, b30, o30⟩; have O30 := Lib.hid o30; clear o30; (first | have XE := Ext.trans XE b30 | have XE := Ext.trans (Ext.trans XE (Ext.alloc _ _)) b30)
      go_wp2_with fail
      refine hK.out _ _ (⟨(D1.out.ext XE).c4, (D2.out.ext XE).c4, (C6.out.ext XE).c4, (C7.out.ext XE).c4, (C8.out.ext XE).c3⟩) (fun hHeld => ?_)
      clear hK K
      try simp only [Act.put, List.getElem_toArray, List.getElem_cons_succ, List.getElem_cons_zero, List.setIfInBounds_toArray, List.set_cons_zero, List.set_cons_succ]
      refine wpAnyH_ready (rs := [43]) (by kernel_rfl) (by simp) ?_
      refine AllReadyH.cons (o := _) rfl (fun K hK => ?_) AllReadyH.nil
      go_simp
      go_at_call 33; refine (HTY.out _ XE).mono ?_; rintro e w31 ⟨v31, rfl, b31, o31⟩; have O31 := Lib.hid o31; clear o31; (first | have XE := Ext.trans XE b31 | have XE := Ext.trans (Ext.trans XE (Ext.alloc _ _)) b31)
      go_wp2_with fail
      refine hK.out _ _ (⟨(D1.out.ext XE).c4, (D2.out.ext XE).c4, (C6.out.ext XE).c4, (C7.out.ext XE).c4, (C8.out.ext XE).c3⟩) (fun hHeld => ?_)
      clear hK K
      try simp only [Act.put, List.getElem_toArray, List.getElem_cons_succ, List.getElem_cons_zero, List.setIfInBounds_toArray, List.set_cons_zero, List.set_cons_succ]
      refine wpAnyH_ready (rs := [44]) (by kernel_rfl) (by simp) ?_
      refine AllReadyH.cons (o := _) rfl (fun K hK => ?_) AllReadyH.nil
      go_simp
      go_at_call 39; refine (rep_means (O27.out.ext (Ext.trans b28 (Ext.trans b29 (Ext.trans b30 b31)))) (O28.out.ext (Ext.trans b29 (Ext.trans b30 b31))) (O29.out.ext (Ext.trans b30 b31)) (O30.out.ext b31) O31.out (ZR.out.le (by decide)) ZA.out.okx Z3.out ZB.out.okx M3.out.1 M3.out.2).mono ?_; rintro e w32 ⟨_, rfl, b32, rfl⟩; (first | have XE := Ext.trans XE b32 | have XE := Ext.trans (Ext.trans XE (Ext.alloc _ _)) b32)
      go_wp2_with fail
      refine hK.out _ _ (⟨(D1.out.ext XE).c4, (D2.out.ext XE).c4, (C6.out.ext XE).c4, (C7.out.ext XE).c4, (C8.out.ext XE).c3⟩) (fun hHeld => ?_)
      clear hK K
      try simp only [Act.put, List.getElem_toArray, List.getElem_cons_succ, List.getElem_cons_zero, List.setIfInBounds_toArray, List.set_cons_zero, List.set_cons_succ]
      refine wpAnyH_take (i := 45) (v := ?_) rfl (by kernel_rfl) (by kernel_rfl) (by kernel_rfl) (fun _ _ _ h => h) (Or.inl ⟨by rfl, fun w0 hSw => ?_⟩) hHeld ?_
      rotate_left
      · (try dsimp only at hSw)
        go_simp
        try with_reducible rfl
      simp only [Act.put, List.getElem_toArray, List.getElem_cons_succ, List.getElem_cons_zero, List.setIfInBounds_toArray, List.set_cons_zero, List.set_cons_succ]
      refine wpAnyH_take (i := 46) (v := ?_) rfl (by kernel_rfl) (by kernel_rfl) (by kernel_rfl) (fun _ _ _ h => h) (Or.inl ⟨by rfl, fun w0 hSw => ?_⟩) hHeld ?_
      rotate_left
      · (try dsimp only at hSw)
        go_simp
        try with_reducible rfl
      simp only [Act.put, List.getElem_toArray, List.getElem_cons_succ, List.getElem_cons_zero, List.setIfInBounds_toArray, List.set_cons_zero, List.set_cons_succ]
      refine wpAnyH_done (by kernel_rfl) ?_ _
      refine NoPanic.normal ?_
      go_wp2_with fail
      exact hR.out _ _ (Gives.mk (Ext.trans b04 XE) rfl)
theorem own : ownKnob Try.prog.godebug = none := by kernel_rfl
theorem laidOut : laidOutB Try.prog = true := by kernel_rfl

set_option maxRecDepth 100000 in
theorem contract (H : Type) (enc : TypeId × Value → H) (W : World) (base : Nat) (args : Array Value) (ds gs : List (DataW H)) (before : List MemPlace)
    (hval : ∀ (j : Nat) t v, Try.f5.params[j]? = some t → args[j]? = some v → Value.okWide Try.prog W .any base t v)
    (hW : DataW.Whole enc Try.prog Try.f5.params.toList Rows.linSumsSpec.vars false W args.toList ds gs before) (hk : Rows.uptoSmall H (ds ++ gs) = true) :
    Calls Try.prog 5 args W fun e W' => ∃ v, e = .returned v ∧ Rows.linSumsSpec.post enc Try.prog Try.f5 false true false false W args v W' := by
  have hW' := hW
  obtain ⟨p, q, hA0, hV, rfl, hfz, hnd⟩ := hW
  have hA : DataW.TrodAll enc Try.prog W 0 (fun _ => true) true Try.f5.params.toList args.toList ds p := hA0
  rw [Try.params5] at hA hval
  obtain ⟨v0, vs0, d0, ds0, p0, q0, hargs, rfl, rfl, h0, r0⟩ := trodAll_cons hA
  obtain ⟨v1, vs1, d1, ds1, p1, q1, rfl, rfl, rfl, h1, r1⟩ := trodAll_cons r0
  obtain ⟨v2, vs2, d2, ds2, p2, q2, rfl, rfl, rfl, h2, r2⟩ := trodAll_cons r1
  obtain ⟨rfl, rfl, rfl⟩ := trodAll_nil r2
  obtain rfl : args = #[v0, v1, v2] := by cases args; simp_all
  obtain ⟨rfl, rfl⟩ := trodVars_none hV
  have hb := bulk_small hk
  simp only [List.append_nil, bulk_cons, bulk_nil] at hb
  have k0 := h0
  have lt0 : ∀ x ∈ p0, x.block < W.heap.size := by obtain ⟨m, hm⟩ := k0; exact DataW.trod_lt m _ _ _ hm
  obtain ⟨l0, n0, rd0, bd0, bn0, len0⟩ := open_E (hval 0 60 v0 rfl rfl) h0
  have k1 := h1
  have lt1 : ∀ x ∈ p1, x.block < W.heap.size := by obtain ⟨m, hm⟩ := k1; exact DataW.trod_lt m _ _ _ hm
  obtain ⟨l1, n1, rd1, bd1, bn1, len1⟩ := open_E (hval 1 60 v1 rfl rfl) h1
  have k2 := h2
  have lt2 : ∀ x ∈ p2, x.block < W.heap.size := by obtain ⟨m, hm⟩ := k2; exact DataW.trod_lt m _ _ _ hm
  obtain ⟨s2, x2, y2, rd2, len2⟩ := open_N (hval 2 25 v2 rfl rfl) h2
  clear hA0
  refine (walk rd0 (fun p hp => by have := bd0 p hp; omega) (by omega) (by omega) rd1 (fun p hp => by have := bd1 p hp; omega) (by omega) (by omega) rd2 (by omega) (by omega)).mono fun e W' ⟨v, he, bel, hv⟩ => ?_
  subst he hv
  exact ⟨_, rfl, _, _, _, [], _, [], hW', trodAll_mk1 (shut_bool Try.underlying4 _), (trodAll_cons_mk (Below.trod laidOut (by kernel_rfl) (of_decide_eq_true (by kernel_rfl)) k0 bel lt0) (trodAll_cons_mk (Below.trod laidOut (by kernel_rfl) (of_decide_eq_true (by kernel_rfl)) k1 bel lt1) (trodAll_cons_mk (Below.trod laidOut (by kernel_rfl) (of_decide_eq_true (by kernel_rfl)) k2 bel lt2) trodAll_mk0))), rfl, bel.frame _, fun h => by cases h⟩

set_option maxRecDepth 100000 in
theorem lifted (os : Os) (started : os.Started) (H : Type) (enc : TypeId × Value → H) (F : Stop.Interp) :
    ReturnsInHanded {} Try.checked os 5 .any ((Rows.OpenSpec.upto Rows.linSumsSpec).pre6 enc Try.prog Try.f5 Rows.linSumsUptoRow.domain false) (((Rows.OpenSpec.upto Rows.linSumsSpec).at F).post enc Try.prog Try.f5 false true false false) := by
  refine returnsInHanded_of_cond (C := Try.checked) (s := Rows.OpenSpec.upto Rows.linSumsSpec) (k := Rows.uptoSmall) rfl own started (by kernel_rfl) Try.func5
    (OpenSpec.witness (enc := enc) (C := Try.checked) (s := Rows.OpenSpec.upto Rows.linSumsSpec) (k := Rows.uptoSmall) rfl false ⟨#[], #[.agg #[.slice none 0 0, .bool false, .slice none 0 0, .slice none 0 0], .agg #[.slice none 0 0, .bool false, .slice none 0 0, .slice none 0 0], .agg #[.bool false, .slice none 0 0, .slice none 0 0]], []⟩ 8 (by kernel_rfl) (by kernel_rfl) (by kernel_rfl)
      (x := ([.agg [.nil, .agg [.lit (.bool false), .nil, .nil]], .agg [.nil, .agg [.lit (.bool false), .nil, .nil]], .agg [.lit (.bool false), .nil, .nil]], [], [])) (by kernel_rfl) rfl (by kernel_rfl)) ?_
  intro W base args ds gs before hval hW _ hk _
  exact contract H enc W base args ds gs before hval hW hk

theorem proved : Rows.LinSumsUptoSaid :=
  OpenClaim.holds_of_cond 5 Try.f5 rfl rfl rfl rfl rfl rfl rfl ⟨rfl, rfl, rfl, rfl, rfl⟩ rfl rfl rfl rfl rfl (by kernel_rfl) Try.func5 (by kernel_rfl)
    (of_decide_eq_true (by kernel_rfl)) (by unfold Func.isWrapper; first | (rw [if_pos (by decide +kernel)]; kernel_rfl) | (rw [if_neg (by decide +kernel)]; exact ⟨rfl, rfl⟩))
    (fun os started H enc _ F => lifted os started H enc F)
#print axioms proved

end Go.Proofs.Ytnbbhpihlcglgaa.linSums
