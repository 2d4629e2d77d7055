/- LinValues: the value of an expression at a point is exact, and goes with sums and with substitution. Conditions: the arguments hold together at most 1048576 values (the second form, Upto). -/
import Derived.Test.YtnbbhpihlcglgaaFrameE
import Derived.Test.YtnbbhpihlcglgaaLinPlain
import Derived.Test.YtnbbhpihlcglgaaPLinSubst
import Derived.Test.YtnbbhpihlcglgaaPLinEval
import Derived.Test.YtnbbhpihlcglgaaPR8Eval
import Derived.Test.YtnbbhpihlcglgaaRowSet
import Derived.Test.YtnbbhpihlcglgaaPIs05
import Derived.Test.YtnbbhpihlcglgaaPAwake08
namespace Go.Proofs.Ytnbbhpihlcglgaa.linValues
open Go.ChangeShapes Go.WideShapes Go.ChangeAt Go.RowKit Go.Att

def Pt (P : List Rat) (w : World) (v : Value) : Prop := OwnRow 3 (OwnQp 163) 32 0 w v P
theorem Pt.ext {P : List Rat} {w w' : World} {v : Value} (h : Pt P w v) (x : Ext w w') : Pt P w' v := OwnRow.ext h OwnQ.ext x
theorem lev_ok {w : World} {v vp : Value} {l : TL} {c : Rat} {P : List Rat} (hv : RdX w v l c) (ok : Okx 380 l c) (hp : RdRow 3 (OwnQp 163) w vp P) (hP : ∀ p ∈ P, Sz 800 p) :
    Calls Try.prog 52 #[v, vp] w (Gives w fun v' w' => OwnQ 163 0 w' v' (c + smv (cf l) P 0)) := by
  rw [← tv_smv]
  exact leval_any 380 800 hv hp ok.2.1 ok.2.2.2 hP ok.1 (by decide)
theorem lev_rep {w : World} {v vp : Value} {F : Int → Rat} {c : Rat} {P : List Rat} (hv : Rep w v F c) (hp : RdRow 3 (OwnQp 163) w vp P) (hP : ∀ p ∈ P, Sz 800 p) :
    Calls Try.prog 52 #[v, vp] w (Gives w fun v' w' => OwnQ 163 0 w' v' (c + smv F P 0)) := by
  obtain ⟨l, h1, h2, h3, h4⟩ := hv
  rw [← smv_congr h2]
  exact lev_ok h4 h3 hp hP
theorem sz_rowN {w : World} {v : Value} {l : List NN} (hv : RdRow 3 RdNp w v l) (n : Nat) : ∀ p ∈ (l.take n).map qN, Sz 8 p := by
  intro p hp
  obtain ⟨q, hq, rfl⟩ := List.mem_map.1 hp
  obtain ⟨i, hi, rfl⟩ := List.getElem_of_mem (List.mem_of_mem_take hq)
  obtain ⟨a, c, rfl, -, -⟩ := hv.shape
  obtain ⟨_, _, cs, -, -, hT, -⟩ := hv.at (by decide) i hi
  obtain ⟨_, _, _, h1, h2⟩ := hT
  exact qOf_sz h1.2 h2.2
theorem val_sz {l : TL} {c : Rat} {P : List Rat} (h : Smx l c) (hP : ∀ p ∈ P, Sz 8 p) (hl : P.length ≤ 6) : Sz 716 (c + smv (cf l) P 0) := by
  have := smv_sz c h.2.2 h.cf hP P.length (Nat.le_refl _)
  rw [List.take_length] at this
  exact this.le (by omega)
theorem subst_law {la lb : TL} {ca cb : Rat} {P : List Rat} {i : Nat} (hi : i < P.length) : (ca + cf la i * cb) + smv (fun u => cf (rst la i) u + cf la i * cf lb u) P 0 = ca + smv (cf la) (P.set i (cb + smv (cf lb) P 0)) 0 := by
  have h1 : smv (cf (rst la i)) P 0 = smv (cf la) P 0 - cf la i * gt P i := by
    have h2 : ∀ x, cf la x = cf (rst la i) x + if (i : Int) = x then cf la i else 0 := fun x => by
      rw [rst_cf]
      by_cases h : x = (i : Int)
      · rw [if_pos h, if_pos h.symm, h, Rat.zero_add]
      · rw [if_neg h, if_neg (Ne.symm h), Rat.add_zero]
    have h3 : smv (cf la) P 0 = smv (cf (rst la i)) P 0 + smv (fun x => if (i : Int) = x then cf la i else 0) P 0 := by rw [← smv_add]; exact smv_congr h2 P 0
    rw [smv_one, if_pos ⟨by omega, by omega⟩] at h3
    have h4 : ((i : Int) - ((0 : Nat) : Int)).toNat = i := by omega
    rw [h4] at h3
    grind
  rw [smv_add, smv_mul, smv_set _ _ _ i 0 hi, h1, Nat.zero_add]
  grind
set_option maxHeartbeats 100000000 in
set_option maxRecDepth 100000 in
set_option linter.unusedSimpArgs false in
theorem walk {w : World} {v0 v1 v3 : Value} {l0 l1 : List (Int × NN)} {n0 n1 : NN} {x : Int} {l3 : List NN} (hv0 : RdNE w v0 l0 n0) (hb0 : ∀ p ∈ l0, bN p.2 ≤ 1048576) (hn0 : bN n0 ≤ 1048576) (_hl0 : l0.length ≤ 1048576)
    (hv1 : RdNE w v1 l1 n1) (hb1 : ∀ p ∈ l1, bN p.2 ≤ 1048576) (hn1 : bN n1 ≤ 1048576) (_hl1 : l1.length ≤ 1048576) (_hx : -9223372036854775808 ≤ x ∧ x ≤ 9223372036854775807)
    (hv3 : RdRow 3 RdNp w v3 l3) (hb3 : ∀ p ∈ l3, bN p ≤ 1048576) (_hn3 : l3.length ≤ 1048576) :
    Calls Try.prog 9 #[v0, v1, .int .i64 x, v3] w (Gives w fun v' _ => v' = .bool true) := by
  refine via fun R hR => ?_
  unfold bN at hb0 hb1 hn0 hn1
  have ZA := Lib.hid (tL_sm hv0)
  have ZB := Lib.hid (tL_sm hv1)
  have ZP := Lib.hid (sz_rowN hv3 6)
  have NP : Hid (((l3.take 6).map qN).length ≤ 6) := by show _ ≤ _; rw [List.length_map, List.length_take]; omega
  have HEA : Hid (∀ (w : World) (v : Value), RdNE w v l0 n0 → Calls Try.prog 31 #[v] w (Gives w fun v' w' => OwnX 0 w' v' (tL l0) (qN n0))) := fun w v h => expr8_sm h (fun t ht => by have := hb0 t ht; exact ⟨by omega, by omega⟩) ⟨by omega, by omega⟩
  have HEB : Hid (∀ (w : World) (v : Value), RdNE w v l1 n1 → Calls Try.prog 31 #[v] w (Gives w fun v' w' => OwnX 0 w' v' (tL l1) (qN n1))) := fun w v h => expr8_sm h (fun t ht => by have := hb1 t ht; exact ⟨by omega, by omega⟩) ⟨by omega, by omega⟩
  have HPW : Hid (∀ (w : World) (v : Value), RdRow 3 RdNp w v l3 → Calls Try.prog 51 #[v] w (Gives w fun v' w' => OwnRow 3 (OwnQp 163) 32 w.heap.size w' v' ((l3.take 6).map qN))) := fun w v h => point_any h (fun p hp => by
    have := hb3 p hp
    unfold bN at this
    exact ⟨by omega, by omega⟩)
  have HPO : Hid (∀ (w : World) (v : Value), RdRow 3 RdNp w v l3 → Calls Try.prog 51 #[v] w (Gives w fun v' w' => Pt ((l3.take 6).map qN) w' v')) := fun w v h => (HPW.out w v h).mono fun _ _ ⟨v, e, b, o⟩ => ⟨v, e, b, o.mono (Nat.zero_le _)⟩
  have HV0 := Lib.hid hv0
  have HV1 := Lib.hid hv1
  have HV3 := Lib.hid hv3
  obtain ⟨sl0, t1, t2, rfl, hr0, -⟩ := hv0
  obtain ⟨aa, ka, rfl, -, -⟩ := hr0.shape
  obtain ⟨sl1, t4, t5, rfl, hr1, -⟩ := hv1
  obtain ⟨ab, kb, rfl, -, -⟩ := hr1.shape
  obtain ⟨a3, k3, rfl, -, -⟩ := hv3.shape
  clear hr0 hr1 hb0 hb1 hn0 hn1 hv3 hb3
  obtain ⟨g0, hg0⟩ : ∃ g0, n0.1 = g0 := ⟨_, rfl⟩
  obtain ⟨g1, hg1⟩ : ∃ g1, n1.1 = g1 := ⟨_, rfl⟩
  obtain ⟨m0, hm0⟩ : ∃ m0, l0.length = m0 := ⟨_, rfl⟩
  obtain ⟨m1, hm1⟩ : ∃ m1, l1.length = m1 := ⟨_, rfl⟩
  obtain ⟨m3, hm3⟩ : ∃ m3, l3.length = m3 := ⟨_, rfl⟩
  rw [hg0, hm0] at HV0 ⊢
  rw [hg1, hm1] at HV1 ⊢
  rw [hm3] at HV3 ⊢
  clear hg0 hg1 hm0 hm1 hm3
  generalize tL l0 = la at *
  generalize tL l1 = lb at *
  generalize qN n0 = ca at *
  generalize qN n1 = cb at *
  generalize (l3.take 6).map qN = P at *
  have ZP8 : Hid (∀ p ∈ P, Sz 800 p) := fun p hp => (ZP.out p hp).le (by decide)
  have VA := Lib.hid (val_sz ZA.out ZP.out NP.out)
  have VB := Lib.hid (val_sz ZB.out ZP.out NP.out)
  have HNU : Hid (∀ w v, RdRow 3 (OwnQp 163) w v P → Calls Try.prog 24 #[v] w (Gives w fun v' w' => RdRow 3 (OwnPp 4) w' v' P)) := fun w v h => (nums_any (RdRow.mono h fun _ _ h => OwnQ.rd h) (fun p hp => (ZP.out p hp).le (by decide)) (by have := NP.out; omega)).mono fun _ _ ⟨v, e, b, o⟩ => ⟨v, e, b, OwnRow.rd o⟩
  have HR8 : Hid (∀ w va vb, RdY w va la ca → RdRow 3 (OwnPp 4) w vb P → Calls Try.prog 53 #[va, vb] w (Gives w fun v' w' => OwnP 4 0 w' v' (ca + smv (cf la) P 0))) := fun w va vb h1 h2 => r8eval_any 117 8 6 h1 (Okx.of (L := 8) (n := 12) ZA.out.2.1 ZA.out.1 (by decide) ZA.out.2.2 (by decide)) h2 ZP.out NP.out (by decide) (by decide) (by decide)
  obtain ⟨w1, hw1, b1, c1, c2, -, -, -⟩ := bx2 w [.slice aa m0 ka, .bool g0, t1, t2] [.slice ab m1 kb, .bool g1, t4, t5] 60 60
  have C1 := Lib.hid c1
  have C2 := Lib.hid c2
  have HW := Lib.hid hw1
  have SZ1 : Hid (w.heap.size + 1 < w1.heap.size) := World.block_lt_of_cell? w1 _ c2.c4.1
  clear hw1 c1 c2
  go_enter Try.func9, Try.ntmps9
  go_upto_region 1 with (fail)
  rw [← HW.out]
  clear HW
  go_cut [9, 10, 11] (fun s9 s10 s11 wx => ∃ (B6 B7 : Nat) (pa : Option Addr) (pk : Nat) (x0 x1 x2 x3 y0 y1 y2 y3 : Value), s9 = .pointer (some ⟨B6, 0, none⟩) ∧ s10 = .pointer (some ⟨B7, 0, none⟩) ∧ s11 = .slice pa P.length pk ∧ Ext w1 wx ∧ Hid (Bx wx B6 [x0, x1, x2, x3]) ∧ Hid (Bx wx B7 [y0, y1, y2, y3]) ∧ Hid (OwnX 0 wx (.agg #[x0, x1, x2, x3]) la ca) ∧ Hid (OwnX 0 wx (.agg #[y0, y1, y2, y3]) lb cb) ∧ Hid (Pt P wx (.slice pa P.length pk)))
  case first =>
    as_aux_lemma =>
      refine wp_region_noPanic ?_
      refine wp_region_held_drew (S := fun w' => (w'.cell? ⟨w.heap.size, 0, none⟩ = some (.slice aa m0 ka) ∧ w'.cell? ⟨w.heap.size, 1, none⟩ = some (.bool g0) ∧ w'.cell? ⟨w.heap.size, 2, none⟩ = some (t1) ∧ w'.cell? ⟨w.heap.size, 3, none⟩ = some (t2)) ∧ (w'.cell? ⟨w.heap.size + 1, 0, none⟩ = some (.slice ab m1 kb) ∧ w'.cell? ⟨w.heap.size + 1, 1, none⟩ = some (.bool g1) ∧ w'.cell? ⟨w.heap.size + 1, 2, none⟩ = some (t4) ∧ w'.cell? ⟨w.heap.size + 1, 3, none⟩ = some (t5))) (by kernel_rfl) (⟨(C1.out.ext (drew_ext w1)).c4, (C2.out.ext (drew_ext w1)).c4⟩) (fun hHeld => ?_)
      refine wpAnyH_take (i := 0) (v := ?_) rfl (by kernel_rfl) (by kernel_rfl) (by kernel_rfl) (fun _ _ _ h => h) (Or.inl ⟨by rfl, fun w0 hSw => ?_⟩) hHeld ?_
      rotate_left
      · (try dsimp only at hSw)
        go_simp
        try with_reducible rfl
      simp only [Act.put, List.getElem_toArray, List.getElem_cons_succ, List.getElem_cons_zero, List.setIfInBounds_toArray, List.set_cons_zero, List.set_cons_succ]
      refine wpAnyH_take (i := 2) (v := ?_) rfl (by kernel_rfl) (by kernel_rfl) (by kernel_rfl) (fun _ _ _ h => h) (Or.inl ⟨by rfl, fun w0 hSw => ?_⟩) hHeld ?_
      rotate_left
      · (try dsimp only at hSw)
        go_simp
        try with_reducible rfl
      simp only [Act.put, List.getElem_toArray, List.getElem_cons_succ, List.getElem_cons_zero, List.setIfInBounds_toArray, List.set_cons_zero, List.set_cons_succ]
      refine wpAnyH_take (i := 4) (v := ?_) rfl (by kernel_rfl) (by kernel_rfl) (by kernel_rfl) (fun _ _ _ h => h) (Or.inl ⟨by rfl, fun w0 hSw => ?_⟩) hHeld ?_
      rotate_left
      · (try dsimp only at hSw)
        go_simp
        try with_reducible rfl
      simp only [Act.put, List.getElem_toArray, List.getElem_cons_succ, List.getElem_cons_zero, List.setIfInBounds_toArray, List.set_cons_zero, List.set_cons_succ]
      refine anyH_cap fun O Q9 AA hO hQ hA => ?_
      obtain ⟨SS, hSS⟩ : ∃ SS : World → Prop, Hid (SS = fun w' => (w'.cell? ⟨w.heap.size, 0, none⟩ = some (.slice aa m0 ka) ∧ w'.cell? ⟨w.heap.size, 1, none⟩ = some (.bool g0) ∧ w'.cell? ⟨w.heap.size, 2, none⟩ = some (t1) ∧ w'.cell? ⟨w.heap.size, 3, none⟩ = some (t2)) ∧ (w'.cell? ⟨w.heap.size + 1, 0, none⟩ = some (.slice ab m1 kb) ∧ w'.cell? ⟨w.heap.size + 1, 1, none⟩ = some (.bool g1) ∧ w'.cell? ⟨w.heap.size + 1, 2, none⟩ = some (t4) ∧ w'.cell? ⟨w.heap.size + 1, 3, none⟩ = some (t5))) := ⟨_, rfl⟩
      have KP : Hid (∀ wv, Ext w1 wv → SS wv) := fun wv XE => by rw [hSS.out]; exact ⟨(C1.out.ext XE).c4, (C2.out.ext XE).c4⟩
      have L3_6_7 : ∀ (wv : World) (v1 v3 v5 : Value) (B6 B7 : Nat), Hid (Ext w1 wv) → Hid (OwnX 0 wv v1 la ca) → Hid (OwnX 0 wv v3 lb cb) → Hid (Pt P wv v5) → Hid (Rt wv B6 4 63) → Hid (w1.heap.size ≤ B6) → Hid (Rt wv B7 4 63) → Hid (w1.heap.size ≤ B7) → Hid (B6 ≠ B7) → wpAnyH Try.prog .any O Q9 SS 3 #[true, true, true, true, true, true, true, true, false, false, false] (((((AA.put (some 14) v1).put (some 16) v3).put (some 18) v5).put (some 9) (.pointer (some ⟨B6, 0, none⟩))).put (some 10) (.pointer (some ⟨B7, 0, none⟩))) wv := by
        intro wv v1 v3 v5 B6 B7 hX p1 p3 p5 r6 s6 r7 s7 ne6_7
        have hO1 := hO.out
        have hQ1 := hQ.out
        have hA1 := hA.out
        subst hO1
        subst hQ1
        subst hA1
        have XE := hX.out
        have hS1 := hSS.out
        subst hS1
        have hHeld : (fun w' => (w'.cell? ⟨w.heap.size, 0, none⟩ = some (.slice aa m0 ka) ∧ w'.cell? ⟨w.heap.size, 1, none⟩ = some (.bool g0) ∧ w'.cell? ⟨w.heap.size, 2, none⟩ = some (t1) ∧ w'.cell? ⟨w.heap.size, 3, none⟩ = some (t2)) ∧ (w'.cell? ⟨w.heap.size + 1, 0, none⟩ = some (.slice ab m1 kb) ∧ w'.cell? ⟨w.heap.size + 1, 1, none⟩ = some (.bool g1) ∧ w'.cell? ⟨w.heap.size + 1, 2, none⟩ = some (t4) ∧ w'.cell? ⟨w.heap.size + 1, 3, none⟩ = some (t5))) wv := ⟨(C1.out.ext XE).c4, (C2.out.ext XE).c4⟩
        try simp only [Act.put, List.getElem_toArray, List.getElem_cons_succ, List.getElem_cons_zero, List.setIfInBounds_toArray, List.set_cons_zero, List.set_cons_succ]
        have k0_6 : w.heap.size ≠ B6 := by have h1 := s6.out; have hz0 := SZ1.out; omega
        have k1_6 : w.heap.size + 1 ≠ B6 := by have h1 := s6.out; have hz0 := SZ1.out; omega
        have k0_7 : w.heap.size ≠ B7 := by have h1 := s7.out; have hz0 := SZ1.out; omega
        have k1_7 : w.heap.size + 1 ≠ B7 := by have h1 := s7.out; have hz0 := SZ1.out; omega
        have n6_7 := ne6_7.out
        have n7_6 := Ne.symm n6_7
        obtain ⟨f0, f1, f2, f3, f4, f5, f6, f7, f8, rfl, -, -, OA⟩ := p1.out.op
        obtain ⟨h0, h1, h2, h3, h4, h5, h6, h7, h8, rfl, -, -, OB⟩ := p3.out.op
        obtain ⟨pa, pk, rfl, -, -⟩ := (OwnRow.rd p5.out).shape
        obtain ⟨_, _, _, _, i6_0, i6_1, i6_2, i6_3, f6_0, f6_1, f6_2, f6_3⟩ := r6.out.c4
        refine wpAnyH_ready (rs := [8]) (by kernel_rfl) (by simp) ?_
        refine AllReadyH.cons (o := _) rfl (fun K hK => ?_) AllReadyH.nil
        go_simp
        refine hK.out _ _ (⟨(((((C1.out.ext XE).set1 k0_6 _ _).set1 k0_6 _ _).set1 k0_6 _ _).set1 k0_6 _ _).c4, (((((C2.out.ext XE).set1 k1_6 _ _).set1 k1_6 _ _).set1 k1_6 _ _).set1 k1_6 _ _).c4⟩) (fun hHeld => ?_)
        clear hK K
        try simp only [Act.put, List.getElem_toArray, List.getElem_cons_succ, List.getElem_cons_zero, List.setIfInBounds_toArray, List.set_cons_zero, List.set_cons_succ]
        clear hHeld
        refine gen_world (P := wpAnyH _ _ _ _ _ _ _ _) _ (fun Wg8 hWg8 => ?_)
        have CG8_0 : Bx Wg8 (w.heap.size) [.slice aa m0 ka, .bool g0, t1, t2] := by rw [hWg8]; exact (((((C1.out.ext XE).set1 k0_6 _ _).set1 k0_6 _ _).set1 k0_6 _ _).set1 k0_6 _ _)
        have CG8_1 : Bx Wg8 (w.heap.size + 1) [.slice ab m1 kb, .bool g1, t4, t5] := by rw [hWg8]; exact (((((C2.out.ext XE).set1 k1_6 _ _).set1 k1_6 _ _).set1 k1_6 _ _).set1 k1_6 _ _)
        have RG8_7 : Rt Wg8 B7 4 63 := by rw [hWg8]; exact ((((r7.out.set1 n7_6 _ _).set1 n7_6 _ _).set1 n7_6 _ _).set1 n7_6 _ _)
        have hHeld : (fun w' => (w'.cell? ⟨w.heap.size, 0, none⟩ = some (.slice aa m0 ka) ∧ w'.cell? ⟨w.heap.size, 1, none⟩ = some (.bool g0) ∧ w'.cell? ⟨w.heap.size, 2, none⟩ = some (t1) ∧ w'.cell? ⟨w.heap.size, 3, none⟩ = some (t2)) ∧ (w'.cell? ⟨w.heap.size + 1, 0, none⟩ = some (.slice ab m1 kb) ∧ w'.cell? ⟨w.heap.size + 1, 1, none⟩ = some (.bool g1) ∧ w'.cell? ⟨w.heap.size + 1, 2, none⟩ = some (t4) ∧ w'.cell? ⟨w.heap.size + 1, 3, none⟩ = some (t5))) Wg8 := ⟨CG8_0.c4, CG8_1.c4⟩
        have HWg8 := Lib.hid hWg8
        clear hWg8
        clear i6_0 f6_0 i6_1 f6_1 i6_2 f6_2 i6_3 f6_3
        obtain ⟨_, _, _, _, i7_0, i7_1, i7_2, i7_3, f7_0, f7_1, f7_2, f7_3⟩ := RG8_7.c4
        refine wpAnyH_ready (rs := [9]) (by kernel_rfl) (by simp) ?_
        refine AllReadyH.cons (o := _) rfl (fun K hK => ?_) AllReadyH.nil
        go_simp
        refine hK.out _ _ (⟨((((CG8_0.set1 k0_7 _ _).set1 k0_7 _ _).set1 k0_7 _ _).set1 k0_7 _ _).c4, ((((CG8_1.set1 k1_7 _ _).set1 k1_7 _ _).set1 k1_7 _ _).set1 k1_7 _ _).c4⟩) (fun hHeld => ?_)
        clear hK K
        try simp only [Act.put, List.getElem_toArray, List.getElem_cons_succ, List.getElem_cons_zero, List.setIfInBounds_toArray, List.set_cons_zero, List.set_cons_succ]
        refine wpAnyH_take (i := 10) (v := ?_) rfl (by kernel_rfl) (by kernel_rfl) (by kernel_rfl) (fun _ _ _ h => h) (Or.inl ⟨by rfl, fun w0 hSw => ?_⟩) hHeld ?_
        rotate_left
        · (try dsimp only at hSw)
          go_simp
          try with_reducible rfl
        simp only [Act.put, List.getElem_toArray, List.getElem_cons_succ, List.getElem_cons_zero, List.setIfInBounds_toArray, List.set_cons_zero, List.set_cons_succ]
        refine wpAnyH_done (by kernel_rfl) ?_ _
        refine NoPanic.normal ?_
        rw [HWg8.out]
        go_wp2_with fail
        go_meet
        obtain ⟨W, hW, hM1, hM2, hM3, hM4, hM5, hM6⟩ := meet44q (Q := fun w => Pt P w (.slice pa P.length pk)) r6.out r7.out ne6_7.out hX.out s6.out s7.out (by decide) (by decide) OA.out OB.out (fun w b cs hr h => OwnRow.putT h hr (by decide) 0 cs (fun v a h => OwnQ.putT h hr (by decide) 0 cs)) p5.out
        rw [← hW]
        exact ⟨B6, B7, pa, pk, _, _, _, _, _, _, _, _, rfl, rfl, rfl, hM1, hM2, hM3, hM4, hM5, hM6⟩
      have L2_6_7 : ∀ (wv : World) (v1 v3 : Value) (B6 B7 : Nat), Hid (Ext w1 wv) → Hid (OwnX 0 wv v1 la ca) → Hid (OwnX 0 wv v3 lb cb) → Hid (Rt wv B6 4 63) → Hid (w1.heap.size ≤ B6) → Hid (Rt wv B7 4 63) → Hid (w1.heap.size ≤ B7) → Hid (B6 ≠ B7) → wpAnyH Try.prog .any O Q9 SS 4 #[true, true, true, true, true, false, true, true, false, false, false] ((((AA.put (some 14) v1).put (some 16) v3).put (some 9) (.pointer (some ⟨B6, 0, none⟩))).put (some 10) (.pointer (some ⟨B7, 0, none⟩))) wv := by
        intro wv v1 v3 B6 B7 hX p1 p3 r6 s6 r7 s7 ne6_7
        have hO1 := hO.out
        have hQ1 := hQ.out
        have hA1 := hA.out
        subst hO1
        subst hQ1
        subst hA1
        have XE := hX.out
        try simp only [Act.put, List.getElem_toArray, List.getElem_cons_succ, List.getElem_cons_zero, List.setIfInBounds_toArray, List.set_cons_zero, List.set_cons_succ]
        refine wpAnyH_ready (rs := [5]) (by kernel_rfl) (by simp) ?_
        refine AllReadyH.cons (o := _) rfl (fun K hK => ?_) AllReadyH.nil
        go_simp
        go_at_call 51
        refine (HPO.out _ _ (HV3.out.ext RdNp.ext (Ext.trans b1 XE))).mono ?_
        rintro e wn ⟨vn, rfl, bn, on⟩
        go_wp2_with fail
        refine hK.out _ _ (KP.out _ (Ext.trans XE bn)) (fun _ => ?_)
        clear hK K
        try simp only [Act.put, List.getElem_toArray, List.getElem_cons_succ, List.getElem_cons_zero, List.setIfInBounds_toArray, List.set_cons_zero, List.set_cons_succ]
        exact wpAnyH_at (L3_6_7 wn v1 v3 vn B6 B7 (Ext.trans XE bn) (p1.out.ext bn) (p3.out.ext bn) (on) (r6.out.ext bn) s6 (r7.out.ext bn) s7 ne6_7) (by kernel_rfl) (by kernel_rfl) (by kernel_rfl)
      have L3_7 : ∀ (wv : World) (v1 v3 v5 : Value) (B7 : Nat), Hid (Ext w1 wv) → Hid (OwnX 0 wv v1 la ca) → Hid (OwnX 0 wv v3 lb cb) → Hid (Pt P wv v5) → Hid (Rt wv B7 4 63) → Hid (w1.heap.size ≤ B7) → wpAnyH Try.prog .any O Q9 SS 4 #[true, true, true, true, true, true, false, true, false, false, false] ((((AA.put (some 14) v1).put (some 16) v3).put (some 18) v5).put (some 10) (.pointer (some ⟨B7, 0, none⟩))) wv := by
        intro wv v1 v3 v5 B7 hX p1 p3 p5 r7 s7
        have hO1 := hO.out
        have hQ1 := hQ.out
        have hA1 := hA.out
        subst hO1
        subst hQ1
        subst hA1
        have XE := hX.out
        try simp only [Act.put, List.getElem_toArray, List.getElem_cons_succ, List.getElem_cons_zero, List.setIfInBounds_toArray, List.set_cons_zero, List.set_cons_succ]
        refine wpAnyH_ready (rs := [6]) (by kernel_rfl) (by simp) ?_
        refine AllReadyH.cons (o := _) rfl (fun K hK => ?_) AllReadyH.nil
        go_simp
        refine hK.out _ _ (KP.out _ (Ext.trans XE (Ext.alloc _ _))) (fun _ => ?_)
        clear hK K
        try simp only [Act.put, List.getElem_toArray, List.getElem_cons_succ, List.getElem_cons_zero, List.setIfInBounds_toArray, List.set_cons_zero, List.set_cons_succ]
        exact wpAnyH_at (L3_6_7 _ v1 v3 v5 wv.heap.size B7 (Ext.trans XE (Ext.alloc wv (.cells [.slice none 0 0, .bool false, .slice none 0 0, .slice none 0 0].toArray 63))) (p1.out.ext (Ext.alloc wv (.cells [.slice none 0 0, .bool false, .slice none 0 0, .slice none 0 0].toArray 63))) (p3.out.ext (Ext.alloc wv (.cells [.slice none 0 0, .bool false, .slice none 0 0, .slice none 0 0].toArray 63))) (p5.out.ext (Ext.alloc wv (.cells [.slice none 0 0, .bool false, .slice none 0 0, .slice none 0 0].toArray 63))) (Rt.new wv [.slice none 0 0, .bool false, .slice none 0 0, .slice none 0 0] 63) (Below.size XE) (r7.out.ext (Ext.alloc wv (.cells [.slice none 0 0, .bool false, .slice none 0 0, .slice none 0 0].toArray 63))) s7 (Nat.ne_of_gt r7.out.lt)) (by kernel_rfl) (by kernel_rfl) (by kernel_rfl)
      have L3_6 : ∀ (wv : World) (v1 v3 v5 : Value) (B6 : Nat), Hid (Ext w1 wv) → Hid (OwnX 0 wv v1 la ca) → Hid (OwnX 0 wv v3 lb cb) → Hid (Pt P wv v5) → Hid (Rt wv B6 4 63) → Hid (w1.heap.size ≤ B6) → wpAnyH Try.prog .any O Q9 SS 4 #[true, true, true, true, true, true, true, false, false, false, false] ((((AA.put (some 14) v1).put (some 16) v3).put (some 18) v5).put (some 9) (.pointer (some ⟨B6, 0, none⟩))) wv := by
        intro wv v1 v3 v5 B6 hX p1 p3 p5 r6 s6
        have hO1 := hO.out
        have hQ1 := hQ.out
        have hA1 := hA.out
        subst hO1
        subst hQ1
        subst hA1
        have XE := hX.out
        try simp only [Act.put, List.getElem_toArray, List.getElem_cons_succ, List.getElem_cons_zero, List.setIfInBounds_toArray, List.set_cons_zero, List.set_cons_succ]
        refine wpAnyH_ready (rs := [7]) (by kernel_rfl) (by simp) ?_
        refine AllReadyH.cons (o := _) rfl (fun K hK => ?_) AllReadyH.nil
        go_simp
        refine hK.out _ _ (KP.out _ (Ext.trans XE (Ext.alloc _ _))) (fun _ => ?_)
        clear hK K
        try simp only [Act.put, List.getElem_toArray, List.getElem_cons_succ, List.getElem_cons_zero, List.setIfInBounds_toArray, List.set_cons_zero, List.set_cons_succ]
        exact wpAnyH_at (L3_6_7 _ v1 v3 v5 B6 wv.heap.size (Ext.trans XE (Ext.alloc wv (.cells [.slice none 0 0, .bool false, .slice none 0 0, .slice none 0 0].toArray 63))) (p1.out.ext (Ext.alloc wv (.cells [.slice none 0 0, .bool false, .slice none 0 0, .slice none 0 0].toArray 63))) (p3.out.ext (Ext.alloc wv (.cells [.slice none 0 0, .bool false, .slice none 0 0, .slice none 0 0].toArray 63))) (p5.out.ext (Ext.alloc wv (.cells [.slice none 0 0, .bool false, .slice none 0 0, .slice none 0 0].toArray 63))) (r6.out.ext (Ext.alloc wv (.cells [.slice none 0 0, .bool false, .slice none 0 0, .slice none 0 0].toArray 63))) s6 (Rt.new wv [.slice none 0 0, .bool false, .slice none 0 0, .slice none 0 0] 63) (Below.size XE) (Nat.ne_of_lt r6.out.lt)) (by kernel_rfl) (by kernel_rfl) (by kernel_rfl)
      have L1_6_7 : ∀ (wv : World) (v1 : Value) (B6 B7 : Nat), Hid (Ext w1 wv) → Hid (OwnX 0 wv v1 la ca) → Hid (Rt wv B6 4 63) → Hid (w1.heap.size ≤ B6) → Hid (Rt wv B7 4 63) → Hid (w1.heap.size ≤ B7) → Hid (B6 ≠ B7) → wpAnyH Try.prog .any O Q9 SS 5 #[true, true, true, false, true, false, true, true, false, false, false] (((AA.put (some 14) v1).put (some 9) (.pointer (some ⟨B6, 0, none⟩))).put (some 10) (.pointer (some ⟨B7, 0, none⟩))) wv := by
        intro wv v1 B6 B7 hX p1 r6 s6 r7 s7 ne6_7
        have hO1 := hO.out
        have hQ1 := hQ.out
        have hA1 := hA.out
        subst hO1
        subst hQ1
        subst hA1
        have XE := hX.out
        try simp only [Act.put, List.getElem_toArray, List.getElem_cons_succ, List.getElem_cons_zero, List.setIfInBounds_toArray, List.set_cons_zero, List.set_cons_succ]
        refine wpAnyH_ready (rs := [3]) (by kernel_rfl) (by simp) ?_
        refine AllReadyH.cons (o := _) rfl (fun K hK => ?_) AllReadyH.nil
        go_simp
        go_at_call 31
        refine (HEB.out _ _ (HV1.out.ext (Ext.trans b1 XE))).mono ?_
        rintro e wn ⟨vn, rfl, bn, on⟩
        go_wp2_with fail
        refine hK.out _ _ (KP.out _ (Ext.trans XE bn)) (fun _ => ?_)
        clear hK K
        try simp only [Act.put, List.getElem_toArray, List.getElem_cons_succ, List.getElem_cons_zero, List.setIfInBounds_toArray, List.set_cons_zero, List.set_cons_succ]
        exact wpAnyH_at (L2_6_7 wn v1 vn B6 B7 (Ext.trans XE bn) (p1.out.ext bn) (on) (r6.out.ext bn) s6 (r7.out.ext bn) s7 ne6_7) (by kernel_rfl) (by kernel_rfl) (by kernel_rfl)
      have L2_7 : ∀ (wv : World) (v1 v3 : Value) (B7 : Nat), Hid (Ext w1 wv) → Hid (OwnX 0 wv v1 la ca) → Hid (OwnX 0 wv v3 lb cb) → Hid (Rt wv B7 4 63) → Hid (w1.heap.size ≤ B7) → wpAnyH Try.prog .any O Q9 SS 5 #[true, true, true, true, true, false, false, true, false, false, false] (((AA.put (some 14) v1).put (some 16) v3).put (some 10) (.pointer (some ⟨B7, 0, none⟩))) wv := by
        intro wv v1 v3 B7 hX p1 p3 r7 s7
        have hO1 := hO.out
        have hQ1 := hQ.out
        have hA1 := hA.out
        subst hO1
        subst hQ1
        subst hA1
        have XE := hX.out
        try simp only [Act.put, List.getElem_toArray, List.getElem_cons_succ, List.getElem_cons_zero, List.setIfInBounds_toArray, List.set_cons_zero, List.set_cons_succ]
        refine wpAnyH_ready (rs := [5, 6]) (by kernel_rfl) (by simp) ?_
        refine AllReadyH.cons (o := _) rfl (fun K hK => ?_) (AllReadyH.cons (o := _) rfl (fun K hK => ?_) AllReadyH.nil)
        · skip
          go_simp
          go_at_call 51
          refine (HPO.out _ _ (HV3.out.ext RdNp.ext (Ext.trans b1 XE))).mono ?_
          rintro e wn ⟨vn, rfl, bn, on⟩
          go_wp2_with fail
          refine hK.out _ _ (KP.out _ (Ext.trans XE bn)) (fun _ => ?_)
          clear hK K
          try simp only [Act.put, List.getElem_toArray, List.getElem_cons_succ, List.getElem_cons_zero, List.setIfInBounds_toArray, List.set_cons_zero, List.set_cons_succ]
          exact wpAnyH_at (L3_7 wn v1 v3 vn B7 (Ext.trans XE bn) (p1.out.ext bn) (p3.out.ext bn) (on) (r7.out.ext bn) s7) (by kernel_rfl) (by kernel_rfl) (by kernel_rfl)
        · skip
          go_simp
          refine hK.out _ _ (KP.out _ (Ext.trans XE (Ext.alloc _ _))) (fun _ => ?_)
          clear hK K
          try simp only [Act.put, List.getElem_toArray, List.getElem_cons_succ, List.getElem_cons_zero, List.setIfInBounds_toArray, List.set_cons_zero, List.set_cons_succ]
          exact wpAnyH_at (L2_6_7 _ v1 v3 wv.heap.size B7 (Ext.trans XE (Ext.alloc wv (.cells [.slice none 0 0, .bool false, .slice none 0 0, .slice none 0 0].toArray 63))) (p1.out.ext (Ext.alloc wv (.cells [.slice none 0 0, .bool false, .slice none 0 0, .slice none 0 0].toArray 63))) (p3.out.ext (Ext.alloc wv (.cells [.slice none 0 0, .bool false, .slice none 0 0, .slice none 0 0].toArray 63))) (Rt.new wv [.slice none 0 0, .bool false, .slice none 0 0, .slice none 0 0] 63) (Below.size XE) (r7.out.ext (Ext.alloc wv (.cells [.slice none 0 0, .bool false, .slice none 0 0, .slice none 0 0].toArray 63))) s7 (Nat.ne_of_gt r7.out.lt)) (by kernel_rfl) (by kernel_rfl) (by kernel_rfl)
      have L2_6 : ∀ (wv : World) (v1 v3 : Value) (B6 : Nat), Hid (Ext w1 wv) → Hid (OwnX 0 wv v1 la ca) → Hid (OwnX 0 wv v3 lb cb) → Hid (Rt wv B6 4 63) → Hid (w1.heap.size ≤ B6) → wpAnyH Try.prog .any O Q9 SS 5 #[true, true, true, true, true, false, true, false, false, false, false] (((AA.put (some 14) v1).put (some 16) v3).put (some 9) (.pointer (some ⟨B6, 0, none⟩))) wv := by
        intro wv v1 v3 B6 hX p1 p3 r6 s6
        have hO1 := hO.out
        have hQ1 := hQ.out
        have hA1 := hA.out
        subst hO1
        subst hQ1
        subst hA1
        have XE := hX.out
        try simp only [Act.put, List.getElem_toArray, List.getElem_cons_succ, List.getElem_cons_zero, List.setIfInBounds_toArray, List.set_cons_zero, List.set_cons_succ]
        refine wpAnyH_ready (rs := [5, 7]) (by kernel_rfl) (by simp) ?_
        refine AllReadyH.cons (o := _) rfl (fun K hK => ?_) (AllReadyH.cons (o := _) rfl (fun K hK => ?_) AllReadyH.nil)
        · skip
          go_simp
          go_at_call 51
          refine (HPO.out _ _ (HV3.out.ext RdNp.ext (Ext.trans b1 XE))).mono ?_
          rintro e wn ⟨vn, rfl, bn, on⟩
          go_wp2_with fail
          refine hK.out _ _ (KP.out _ (Ext.trans XE bn)) (fun _ => ?_)
          clear hK K
          try simp only [Act.put, List.getElem_toArray, List.getElem_cons_succ, List.getElem_cons_zero, List.setIfInBounds_toArray, List.set_cons_zero, List.set_cons_succ]
          exact wpAnyH_at (L3_6 wn v1 v3 vn B6 (Ext.trans XE bn) (p1.out.ext bn) (p3.out.ext bn) (on) (r6.out.ext bn) s6) (by kernel_rfl) (by kernel_rfl) (by kernel_rfl)
        · skip
          go_simp
          refine hK.out _ _ (KP.out _ (Ext.trans XE (Ext.alloc _ _))) (fun _ => ?_)
          clear hK K
          try simp only [Act.put, List.getElem_toArray, List.getElem_cons_succ, List.getElem_cons_zero, List.setIfInBounds_toArray, List.set_cons_zero, List.set_cons_succ]
          exact wpAnyH_at (L2_6_7 _ v1 v3 B6 wv.heap.size (Ext.trans XE (Ext.alloc wv (.cells [.slice none 0 0, .bool false, .slice none 0 0, .slice none 0 0].toArray 63))) (p1.out.ext (Ext.alloc wv (.cells [.slice none 0 0, .bool false, .slice none 0 0, .slice none 0 0].toArray 63))) (p3.out.ext (Ext.alloc wv (.cells [.slice none 0 0, .bool false, .slice none 0 0, .slice none 0 0].toArray 63))) (r6.out.ext (Ext.alloc wv (.cells [.slice none 0 0, .bool false, .slice none 0 0, .slice none 0 0].toArray 63))) s6 (Rt.new wv [.slice none 0 0, .bool false, .slice none 0 0, .slice none 0 0] 63) (Below.size XE) (Nat.ne_of_lt r6.out.lt)) (by kernel_rfl) (by kernel_rfl) (by kernel_rfl)
      have L3_ : ∀ (wv : World) (v1 v3 v5 : Value), Hid (Ext w1 wv) → Hid (OwnX 0 wv v1 la ca) → Hid (OwnX 0 wv v3 lb cb) → Hid (Pt P wv v5) → wpAnyH Try.prog .any O Q9 SS 5 #[true, true, true, true, true, true, false, false, false, false, false] (((AA.put (some 14) v1).put (some 16) v3).put (some 18) v5) wv := by
        intro wv v1 v3 v5 hX p1 p3 p5
        have hO1 := hO.out
        have hQ1 := hQ.out
        have hA1 := hA.out
        subst hO1
        subst hQ1
        subst hA1
        have XE := hX.out
        try simp only [Act.put, List.getElem_toArray, List.getElem_cons_succ, List.getElem_cons_zero, List.setIfInBounds_toArray, List.set_cons_zero, List.set_cons_succ]
        refine wpAnyH_ready (rs := [6, 7]) (by kernel_rfl) (by simp) ?_
        refine AllReadyH.cons (o := _) rfl (fun K hK => ?_) (AllReadyH.cons (o := _) rfl (fun K hK => ?_) AllReadyH.nil)
        · skip
          go_simp
          refine hK.out _ _ (KP.out _ (Ext.trans XE (Ext.alloc _ _))) (fun _ => ?_)
          clear hK K
          try simp only [Act.put, List.getElem_toArray, List.getElem_cons_succ, List.getElem_cons_zero, List.setIfInBounds_toArray, List.set_cons_zero, List.set_cons_succ]
          exact wpAnyH_at (L3_6 _ v1 v3 v5 wv.heap.size (Ext.trans XE (Ext.alloc wv (.cells [.slice none 0 0, .bool false, .slice none 0 0, .slice none 0 0].toArray 63))) (p1.out.ext (Ext.alloc wv (.cells [.slice none 0 0, .bool false, .slice none 0 0, .slice none 0 0].toArray 63))) (p3.out.ext (Ext.alloc wv (.cells [.slice none 0 0, .bool false, .slice none 0 0, .slice none 0 0].toArray 63))) (p5.out.ext (Ext.alloc wv (.cells [.slice none 0 0, .bool false, .slice none 0 0, .slice none 0 0].toArray 63))) (Rt.new wv [.slice none 0 0, .bool false, .slice none 0 0, .slice none 0 0] 63) (Below.size XE)) (by kernel_rfl) (by kernel_rfl) (by kernel_rfl)
        · skip
          go_simp
          refine hK.out _ _ (KP.out _ (Ext.trans XE (Ext.alloc _ _))) (fun _ => ?_)
          clear hK K
          try simp only [Act.put, List.getElem_toArray, List.getElem_cons_succ, List.getElem_cons_zero, List.setIfInBounds_toArray, List.set_cons_zero, List.set_cons_succ]
          exact wpAnyH_at (L3_7 _ v1 v3 v5 wv.heap.size (Ext.trans XE (Ext.alloc wv (.cells [.slice none 0 0, .bool false, .slice none 0 0, .slice none 0 0].toArray 63))) (p1.out.ext (Ext.alloc wv (.cells [.slice none 0 0, .bool false, .slice none 0 0, .slice none 0 0].toArray 63))) (p3.out.ext (Ext.alloc wv (.cells [.slice none 0 0, .bool false, .slice none 0 0, .slice none 0 0].toArray 63))) (p5.out.ext (Ext.alloc wv (.cells [.slice none 0 0, .bool false, .slice none 0 0, .slice none 0 0].toArray 63))) (Rt.new wv [.slice none 0 0, .bool false, .slice none 0 0, .slice none 0 0] 63) (Below.size XE)) (by kernel_rfl) (by kernel_rfl) (by kernel_rfl)
      have L0_6_7 : ∀ (wv : World) (B6 B7 : Nat), Hid (Ext w1 wv) → Hid (Rt wv B6 4 63) → Hid (w1.heap.size ≤ B6) → Hid (Rt wv B7 4 63) → Hid (w1.heap.size ≤ B7) → Hid (B6 ≠ B7) → wpAnyH Try.prog .any O Q9 SS 6 #[true, false, true, false, true, false, true, true, false, false, false] ((AA.put (some 9) (.pointer (some ⟨B6, 0, none⟩))).put (some 10) (.pointer (some ⟨B7, 0, none⟩))) wv := by
        intro wv B6 B7 hX r6 s6 r7 s7 ne6_7
        have hO1 := hO.out
        have hQ1 := hQ.out
        have hA1 := hA.out
        subst hO1
        subst hQ1
        subst hA1
        have XE := hX.out
        try simp only [Act.put, List.getElem_toArray, List.getElem_cons_succ, List.getElem_cons_zero, List.setIfInBounds_toArray, List.set_cons_zero, List.set_cons_succ]
        refine wpAnyH_ready (rs := [1]) (by kernel_rfl) (by simp) ?_
        refine AllReadyH.cons (o := _) rfl (fun K hK => ?_) AllReadyH.nil
        go_simp
        go_at_call 31
        refine (HEA.out _ _ (HV0.out.ext (Ext.trans b1 XE))).mono ?_
        rintro e wn ⟨vn, rfl, bn, on⟩
        go_wp2_with fail
        refine hK.out _ _ (KP.out _ (Ext.trans XE bn)) (fun _ => ?_)
        clear hK K
        try simp only [Act.put, List.getElem_toArray, List.getElem_cons_succ, List.getElem_cons_zero, List.setIfInBounds_toArray, List.set_cons_zero, List.set_cons_succ]
        exact wpAnyH_at (L1_6_7 wn vn B6 B7 (Ext.trans XE bn) (on) (r6.out.ext bn) s6 (r7.out.ext bn) s7 ne6_7) (by kernel_rfl) (by kernel_rfl) (by kernel_rfl)
      have L1_7 : ∀ (wv : World) (v1 : Value) (B7 : Nat), Hid (Ext w1 wv) → Hid (OwnX 0 wv v1 la ca) → Hid (Rt wv B7 4 63) → Hid (w1.heap.size ≤ B7) → wpAnyH Try.prog .any O Q9 SS 6 #[true, true, true, false, true, false, false, true, false, false, false] ((AA.put (some 14) v1).put (some 10) (.pointer (some ⟨B7, 0, none⟩))) wv := by
        intro wv v1 B7 hX p1 r7 s7
        have hO1 := hO.out
        have hQ1 := hQ.out
        have hA1 := hA.out
        subst hO1
        subst hQ1
        subst hA1
        have XE := hX.out
        try simp only [Act.put, List.getElem_toArray, List.getElem_cons_succ, List.getElem_cons_zero, List.setIfInBounds_toArray, List.set_cons_zero, List.set_cons_succ]
        refine wpAnyH_ready (rs := [3, 6]) (by kernel_rfl) (by simp) ?_
        refine AllReadyH.cons (o := _) rfl (fun K hK => ?_) (AllReadyH.cons (o := _) rfl (fun K hK => ?_) AllReadyH.nil)
        · skip
          go_simp
          go_at_call 31
          refine (HEB.out _ _ (HV1.out.ext (Ext.trans b1 XE))).mono ?_
          rintro e wn ⟨vn, rfl, bn, on⟩
          go_wp2_with fail
          refine hK.out _ _ (KP.out _ (Ext.trans XE bn)) (fun _ => ?_)
          clear hK K
          try simp only [Act.put, List.getElem_toArray, List.getElem_cons_succ, List.getElem_cons_zero, List.setIfInBounds_toArray, List.set_cons_zero, List.set_cons_succ]
          exact wpAnyH_at (L2_7 wn v1 vn B7 (Ext.trans XE bn) (p1.out.ext bn) (on) (r7.out.ext bn) s7) (by kernel_rfl) (by kernel_rfl) (by kernel_rfl)
        · skip
          go_simp
          refine hK.out _ _ (KP.out _ (Ext.trans XE (Ext.alloc _ _))) (fun _ => ?_)
          clear hK K
          try simp only [Act.put, List.getElem_toArray, List.getElem_cons_succ, List.getElem_cons_zero, List.setIfInBounds_toArray, List.set_cons_zero, List.set_cons_succ]
          exact wpAnyH_at (L1_6_7 _ v1 wv.heap.size B7 (Ext.trans XE (Ext.alloc wv (.cells [.slice none 0 0, .bool false, .slice none 0 0, .slice none 0 0].toArray 63))) (p1.out.ext (Ext.alloc wv (.cells [.slice none 0 0, .bool false, .slice none 0 0, .slice none 0 0].toArray 63))) (Rt.new wv [.slice none 0 0, .bool false, .slice none 0 0, .slice none 0 0] 63) (Below.size XE) (r7.out.ext (Ext.alloc wv (.cells [.slice none 0 0, .bool false, .slice none 0 0, .slice none 0 0].toArray 63))) s7 (Nat.ne_of_gt r7.out.lt)) (by kernel_rfl) (by kernel_rfl) (by kernel_rfl)
      have L1_6 : ∀ (wv : World) (v1 : Value) (B6 : Nat), Hid (Ext w1 wv) → Hid (OwnX 0 wv v1 la ca) → Hid (Rt wv B6 4 63) → Hid (w1.heap.size ≤ B6) → wpAnyH Try.prog .any O Q9 SS 6 #[true, true, true, false, true, false, true, false, false, false, false] ((AA.put (some 14) v1).put (some 9) (.pointer (some ⟨B6, 0, none⟩))) wv := by
        intro wv v1 B6 hX p1 r6 s6
        have hO1 := hO.out
        have hQ1 := hQ.out
        have hA1 := hA.out
        subst hO1
        subst hQ1
        subst hA1
        have XE := hX.out
        try simp only [Act.put, List.getElem_toArray, List.getElem_cons_succ, List.getElem_cons_zero, List.setIfInBounds_toArray, List.set_cons_zero, List.set_cons_succ]
        refine wpAnyH_ready (rs := [3, 7]) (by kernel_rfl) (by simp) ?_
        refine AllReadyH.cons (o := _) rfl (fun K hK => ?_) (AllReadyH.cons (o := _) rfl (fun K hK => ?_) AllReadyH.nil)
        · skip
          go_simp
          go_at_call 31
          refine (HEB.out _ _ (HV1.out.ext (Ext.trans b1 XE))).mono ?_
          rintro e wn ⟨vn, rfl, bn, on⟩
          go_wp2_with fail
          refine hK.out _ _ (KP.out _ (Ext.trans XE bn)) (fun _ => ?_)
          clear hK K
          try simp only [Act.put, List.getElem_toArray, List.getElem_cons_succ, List.getElem_cons_zero, List.setIfInBounds_toArray, List.set_cons_zero, List.set_cons_succ]
          exact wpAnyH_at (L2_6 wn v1 vn B6 (Ext.trans XE bn) (p1.out.ext bn) (on) (r6.out.ext bn) s6) (by kernel_rfl) (by kernel_rfl) (by kernel_rfl)
        · skip
          go_simp
          refine hK.out _ _ (KP.out _ (Ext.trans XE (Ext.alloc _ _))) (fun _ => ?_)
          clear hK K
          try simp only [Act.put, List.getElem_toArray, List.getElem_cons_succ, List.getElem_cons_zero, List.setIfInBounds_toArray, List.set_cons_zero, List.set_cons_succ]
          exact wpAnyH_at (L1_6_7 _ v1 B6 wv.heap.size (Ext.trans XE (Ext.alloc wv (.cells [.slice none 0 0, .bool false, .slice none 0 0, .slice none 0 0].toArray 63))) (p1.out.ext (Ext.alloc wv (.cells [.slice none 0 0, .bool false, .slice none 0 0, .slice none 0 0].toArray 63))) (r6.out.ext (Ext.alloc wv (.cells [.slice none 0 0, .bool false, .slice none 0 0, .slice none 0 0].toArray 63))) s6 (Rt.new wv [.slice none 0 0, .bool false, .slice none 0 0, .slice none 0 0] 63) (Below.size XE) (Nat.ne_of_lt r6.out.lt)) (by kernel_rfl) (by kernel_rfl) (by kernel_rfl)
      have L2_ : ∀ (wv : World) (v1 v3 : Value), Hid (Ext w1 wv) → Hid (OwnX 0 wv v1 la ca) → Hid (OwnX 0 wv v3 lb cb) → wpAnyH Try.prog .any O Q9 SS 6 #[true, true, true, true, true, false, false, false, false, false, false] ((AA.put (some 14) v1).put (some 16) v3) wv := by
        intro wv v1 v3 hX p1 p3
        have hO1 := hO.out
        have hQ1 := hQ.out
        have hA1 := hA.out
        subst hO1
        subst hQ1
        subst hA1
        have XE := hX.out
        try simp only [Act.put, List.getElem_toArray, List.getElem_cons_succ, List.getElem_cons_zero, List.setIfInBounds_toArray, List.set_cons_zero, List.set_cons_succ]
        refine wpAnyH_ready (rs := [5, 6, 7]) (by kernel_rfl) (by simp) ?_
        refine AllReadyH.cons (o := _) rfl (fun K hK => ?_) (AllReadyH.cons (o := _) rfl (fun K hK => ?_) (AllReadyH.cons (o := _) rfl (fun K hK => ?_) AllReadyH.nil))
        · skip
          go_simp
          go_at_call 51
          refine (HPO.out _ _ (HV3.out.ext RdNp.ext (Ext.trans b1 XE))).mono ?_
          rintro e wn ⟨vn, rfl, bn, on⟩
          go_wp2_with fail
          refine hK.out _ _ (KP.out _ (Ext.trans XE bn)) (fun _ => ?_)
          clear hK K
          try simp only [Act.put, List.getElem_toArray, List.getElem_cons_succ, List.getElem_cons_zero, List.setIfInBounds_toArray, List.set_cons_zero, List.set_cons_succ]
          exact wpAnyH_at (L3_ wn v1 v3 vn (Ext.trans XE bn) (p1.out.ext bn) (p3.out.ext bn) (on)) (by kernel_rfl) (by kernel_rfl) (by kernel_rfl)
        · skip
          go_simp
          refine hK.out _ _ (KP.out _ (Ext.trans XE (Ext.alloc _ _))) (fun _ => ?_)
          clear hK K
          try simp only [Act.put, List.getElem_toArray, List.getElem_cons_succ, List.getElem_cons_zero, List.setIfInBounds_toArray, List.set_cons_zero, List.set_cons_succ]
          exact wpAnyH_at (L2_6 _ v1 v3 wv.heap.size (Ext.trans XE (Ext.alloc wv (.cells [.slice none 0 0, .bool false, .slice none 0 0, .slice none 0 0].toArray 63))) (p1.out.ext (Ext.alloc wv (.cells [.slice none 0 0, .bool false, .slice none 0 0, .slice none 0 0].toArray 63))) (p3.out.ext (Ext.alloc wv (.cells [.slice none 0 0, .bool false, .slice none 0 0, .slice none 0 0].toArray 63))) (Rt.new wv [.slice none 0 0, .bool false, .slice none 0 0, .slice none 0 0] 63) (Below.size XE)) (by kernel_rfl) (by kernel_rfl) (by kernel_rfl)
        · skip
          go_simp
          refine hK.out _ _ (KP.out _ (Ext.trans XE (Ext.alloc _ _))) (fun _ => ?_)
          clear hK K
          try simp only [Act.put, List.getElem_toArray, List.getElem_cons_succ, List.getElem_cons_zero, List.setIfInBounds_toArray, List.set_cons_zero, List.set_cons_succ]
          exact wpAnyH_at (L2_7 _ v1 v3 wv.heap.size (Ext.trans XE (Ext.alloc wv (.cells [.slice none 0 0, .bool false, .slice none 0 0, .slice none 0 0].toArray 63))) (p1.out.ext (Ext.alloc wv (.cells [.slice none 0 0, .bool false, .slice none 0 0, .slice none 0 0].toArray 63))) (p3.out.ext (Ext.alloc wv (.cells [.slice none 0 0, .bool false, .slice none 0 0, .slice none 0 0].toArray 63))) (Rt.new wv [.slice none 0 0, .bool false, .slice none 0 0, .slice none 0 0] 63) (Below.size XE)) (by kernel_rfl) (by kernel_rfl) (by kernel_rfl)
      have L0_7 : ∀ (wv : World) (B7 : Nat), Hid (Ext w1 wv) → Hid (Rt wv B7 4 63) → Hid (w1.heap.size ≤ B7) → wpAnyH Try.prog .any O Q9 SS 7 #[true, false, true, false, true, false, false, true, false, false, false] (AA.put (some 10) (.pointer (some ⟨B7, 0, none⟩))) wv := by
        intro wv B7 hX r7 s7
        have hO1 := hO.out
        have hQ1 := hQ.out
        have hA1 := hA.out
        subst hO1
        subst hQ1
        subst hA1
        have XE := hX.out
        try simp only [Act.put, List.getElem_toArray, List.getElem_cons_succ, List.getElem_cons_zero, List.setIfInBounds_toArray, List.set_cons_zero, List.set_cons_succ]
        refine wpAnyH_ready (rs := [1, 6]) (by kernel_rfl) (by simp) ?_
        refine AllReadyH.cons (o := _) rfl (fun K hK => ?_) (AllReadyH.cons (o := _) rfl (fun K hK => ?_) AllReadyH.nil)
        · skip
          go_simp
          go_at_call 31
          refine (HEA.out _ _ (HV0.out.ext (Ext.trans b1 XE))).mono ?_
          rintro e wn ⟨vn, rfl, bn, on⟩
          go_wp2_with fail
          refine hK.out _ _ (KP.out _ (Ext.trans XE bn)) (fun _ => ?_)
          clear hK K
          try simp only [Act.put, List.getElem_toArray, List.getElem_cons_succ, List.getElem_cons_zero, List.setIfInBounds_toArray, List.set_cons_zero, List.set_cons_succ]
          exact wpAnyH_at (L1_7 wn vn B7 (Ext.trans XE bn) (on) (r7.out.ext bn) s7) (by kernel_rfl) (by kernel_rfl) (by kernel_rfl)
        · skip
          go_simp
          refine hK.out _ _ (KP.out _ (Ext.trans XE (Ext.alloc _ _))) (fun _ => ?_)
          clear hK K
          try simp only [Act.put, List.getElem_toArray, List.getElem_cons_succ, List.getElem_cons_zero, List.setIfInBounds_toArray, List.set_cons_zero, List.set_cons_succ]
          exact wpAnyH_at (L0_6_7 _ wv.heap.size B7 (Ext.trans XE (Ext.alloc wv (.cells [.slice none 0 0, .bool false, .slice none 0 0, .slice none 0 0].toArray 63))) (Rt.new wv [.slice none 0 0, .bool false, .slice none 0 0, .slice none 0 0] 63) (Below.size XE) (r7.out.ext (Ext.alloc wv (.cells [.slice none 0 0, .bool false, .slice none 0 0, .slice none 0 0].toArray 63))) s7 (Nat.ne_of_gt r7.out.lt)) (by kernel_rfl) (by kernel_rfl) (by kernel_rfl)
      have L0_6 : ∀ (wv : World) (B6 : Nat), Hid (Ext w1 wv) → Hid (Rt wv B6 4 63) → Hid (w1.heap.size ≤ B6) → wpAnyH Try.prog .any O Q9 SS 7 #[true, false, true, false, true, false, true, false, false, false, false] (AA.put (some 9) (.pointer (some ⟨B6, 0, none⟩))) wv := by
        intro wv B6 hX r6 s6
        have hO1 := hO.out
        have hQ1 := hQ.out
        have hA1 := hA.out
        subst hO1
        subst hQ1
        subst hA1
        have XE := hX.out
        try simp only [Act.put, List.getElem_toArray, List.getElem_cons_succ, List.getElem_cons_zero, List.setIfInBounds_toArray, List.set_cons_zero, List.set_cons_succ]
        refine wpAnyH_ready (rs := [1, 7]) (by kernel_rfl) (by simp) ?_
        refine AllReadyH.cons (o := _) rfl (fun K hK => ?_) (AllReadyH.cons (o := _) rfl (fun K hK => ?_) AllReadyH.nil)
        · skip
          go_simp
          go_at_call 31
          refine (HEA.out _ _ (HV0.out.ext (Ext.trans b1 XE))).mono ?_
          rintro e wn ⟨vn, rfl, bn, on⟩
          go_wp2_with fail
          refine hK.out _ _ (KP.out _ (Ext.trans XE bn)) (fun _ => ?_)
          clear hK K
          try simp only [Act.put, List.getElem_toArray, List.getElem_cons_succ, List.getElem_cons_zero, List.setIfInBounds_toArray, List.set_cons_zero, List.set_cons_succ]
          exact wpAnyH_at (L1_6 wn vn B6 (Ext.trans XE bn) (on) (r6.out.ext bn) s6) (by kernel_rfl) (by kernel_rfl) (by kernel_rfl)
        · skip
          go_simp
          refine hK.out _ _ (KP.out _ (Ext.trans XE (Ext.alloc _ _))) (fun _ => ?_)
          clear hK K
          try simp only [Act.put, List.getElem_toArray, List.getElem_cons_succ, List.getElem_cons_zero, List.setIfInBounds_toArray, List.set_cons_zero, List.set_cons_succ]
          exact wpAnyH_at (L0_6_7 _ B6 wv.heap.size (Ext.trans XE (Ext.alloc wv (.cells [.slice none 0 0, .bool false, .slice none 0 0, .slice none 0 0].toArray 63))) (r6.out.ext (Ext.alloc wv (.cells [.slice none 0 0, .bool false, .slice none 0 0, .slice none 0 0].toArray 63))) s6 (Rt.new wv [.slice none 0 0, .bool false, .slice none 0 0, .slice none 0 0] 63) (Below.size XE) (Nat.ne_of_lt r6.out.lt)) (by kernel_rfl) (by kernel_rfl) (by kernel_rfl)
      have L1_ : ∀ (wv : World) (v1 : Value), Hid (Ext w1 wv) → Hid (OwnX 0 wv v1 la ca) → wpAnyH Try.prog .any O Q9 SS 7 #[true, true, true, false, true, false, false, false, false, false, false] (AA.put (some 14) v1) wv := by
        intro wv v1 hX p1
        have hO1 := hO.out
        have hQ1 := hQ.out
        have hA1 := hA.out
        subst hO1
        subst hQ1
        subst hA1
        have XE := hX.out
        try simp only [Act.put, List.getElem_toArray, List.getElem_cons_succ, List.getElem_cons_zero, List.setIfInBounds_toArray, List.set_cons_zero, List.set_cons_succ]
        refine wpAnyH_ready (rs := [3, 6, 7]) (by kernel_rfl) (by simp) ?_
        refine AllReadyH.cons (o := _) rfl (fun K hK => ?_) (AllReadyH.cons (o := _) rfl (fun K hK => ?_) (AllReadyH.cons (o := _) rfl (fun K hK => ?_) AllReadyH.nil))
        · skip
          go_simp
          go_at_call 31
          refine (HEB.out _ _ (HV1.out.ext (Ext.trans b1 XE))).mono ?_
          rintro e wn ⟨vn, rfl, bn, on⟩
          go_wp2_with fail
          refine hK.out _ _ (KP.out _ (Ext.trans XE bn)) (fun _ => ?_)
          clear hK K
          try simp only [Act.put, List.getElem_toArray, List.getElem_cons_succ, List.getElem_cons_zero, List.setIfInBounds_toArray, List.set_cons_zero, List.set_cons_succ]
          exact wpAnyH_at (L2_ wn v1 vn (Ext.trans XE bn) (p1.out.ext bn) (on)) (by kernel_rfl) (by kernel_rfl) (by kernel_rfl)
        · skip
          go_simp
          refine hK.out _ _ (KP.out _ (Ext.trans XE (Ext.alloc _ _))) (fun _ => ?_)
          clear hK K
          try simp only [Act.put, List.getElem_toArray, List.getElem_cons_succ, List.getElem_cons_zero, List.setIfInBounds_toArray, List.set_cons_zero, List.set_cons_succ]
          exact wpAnyH_at (L1_6 _ v1 wv.heap.size (Ext.trans XE (Ext.alloc wv (.cells [.slice none 0 0, .bool false, .slice none 0 0, .slice none 0 0].toArray 63))) (p1.out.ext (Ext.alloc wv (.cells [.slice none 0 0, .bool false, .slice none 0 0, .slice none 0 0].toArray 63))) (Rt.new wv [.slice none 0 0, .bool false, .slice none 0 0, .slice none 0 0] 63) (Below.size XE)) (by kernel_rfl) (by kernel_rfl) (by kernel_rfl)
        · skip
          go_simp
          refine hK.out _ _ (KP.out _ (Ext.trans XE (Ext.alloc _ _))) (fun _ => ?_)
          clear hK K
          try simp only [Act.put, List.getElem_toArray, List.getElem_cons_succ, List.getElem_cons_zero, List.setIfInBounds_toArray, List.set_cons_zero, List.set_cons_succ]
          exact wpAnyH_at (L1_7 _ v1 wv.heap.size (Ext.trans XE (Ext.alloc wv (.cells [.slice none 0 0, .bool false, .slice none 0 0, .slice none 0 0].toArray 63))) (p1.out.ext (Ext.alloc wv (.cells [.slice none 0 0, .bool false, .slice none 0 0, .slice none 0 0].toArray 63))) (Rt.new wv [.slice none 0 0, .bool false, .slice none 0 0, .slice none 0 0] 63) (Below.size XE)) (by kernel_rfl) (by kernel_rfl) (by kernel_rfl)
      have L0_ : ∀ (wv : World), Hid (Ext w1 wv) → wpAnyH Try.prog .any O Q9 SS 8 #[true, false, true, false, true, false, false, false, false, false, false] AA wv := by
        intro wv hX
        have hO1 := hO.out
        have hQ1 := hQ.out
        have hA1 := hA.out
        subst hO1
        subst hQ1
        subst hA1
        have XE := hX.out
        try simp only [Act.put, List.getElem_toArray, List.getElem_cons_succ, List.getElem_cons_zero, List.setIfInBounds_toArray, List.set_cons_zero, List.set_cons_succ]
        refine wpAnyH_ready (rs := [1, 6, 7]) (by kernel_rfl) (by simp) ?_
        refine AllReadyH.cons (o := _) rfl (fun K hK => ?_) (AllReadyH.cons (o := _) rfl (fun K hK => ?_) (AllReadyH.cons (o := _) rfl (fun K hK => ?_) AllReadyH.nil))
        · skip
          go_simp
          go_at_call 31
          refine (HEA.out _ _ (HV0.out.ext (Ext.trans b1 XE))).mono ?_
          rintro e wn ⟨vn, rfl, bn, on⟩
          go_wp2_with fail
          refine hK.out _ _ (KP.out _ (Ext.trans XE bn)) (fun _ => ?_)
          clear hK K
          try simp only [Act.put, List.getElem_toArray, List.getElem_cons_succ, List.getElem_cons_zero, List.setIfInBounds_toArray, List.set_cons_zero, List.set_cons_succ]
          exact wpAnyH_at (L1_ wn vn (Ext.trans XE bn) (on)) (by kernel_rfl) (by kernel_rfl) (by kernel_rfl)
        · skip
          go_simp
          refine hK.out _ _ (KP.out _ (Ext.trans XE (Ext.alloc _ _))) (fun _ => ?_)
          clear hK K
          try simp only [Act.put, List.getElem_toArray, List.getElem_cons_succ, List.getElem_cons_zero, List.setIfInBounds_toArray, List.set_cons_zero, List.set_cons_succ]
          exact wpAnyH_at (L0_6 _ wv.heap.size (Ext.trans XE (Ext.alloc wv (.cells [.slice none 0 0, .bool false, .slice none 0 0, .slice none 0 0].toArray 63))) (Rt.new wv [.slice none 0 0, .bool false, .slice none 0 0, .slice none 0 0] 63) (Below.size XE)) (by kernel_rfl) (by kernel_rfl) (by kernel_rfl)
        · skip
          go_simp
          refine hK.out _ _ (KP.out _ (Ext.trans XE (Ext.alloc _ _))) (fun _ => ?_)
          clear hK K
          try simp only [Act.put, List.getElem_toArray, List.getElem_cons_succ, List.getElem_cons_zero, List.setIfInBounds_toArray, List.set_cons_zero, List.set_cons_succ]
          exact wpAnyH_at (L0_7 _ wv.heap.size (Ext.trans XE (Ext.alloc wv (.cells [.slice none 0 0, .bool false, .slice none 0 0, .slice none 0 0].toArray 63))) (Rt.new wv [.slice none 0 0, .bool false, .slice none 0 0, .slice none 0 0] 63) (Below.size XE)) (by kernel_rfl) (by kernel_rfl) (by kernel_rfl)
      have hO1 := hO.out
      have hQ1 := hQ.out
      have hA1 := hA.out
      subst hO1
      subst hQ1
      subst hA1
      have hS1 := hSS.out
      subst hS1
      exact wpAnyH_at (L0_ w1.drew (drew_ext w1)) (by kernel_rfl) (by kernel_rfl) (by kernel_rfl)
  case rest =>
    as_aux_lemma =>
      obtain ⟨B6, B7, pa, pk, x0, x1, x2, x3, y0, y1, y2, y3, rfl, rfl, rfl, b4, C6, C7, OA, OB, OP⟩ := hcut
      generalize wc = w4 at *
      have b04 := Ext.trans b1 b4
      have D1 := Lib.hid (C1.out.ext b4)
      have D2 := Lib.hid (C2.out.ext b4)
      have RP : Hid (RdRow 3 (OwnQp 163) w4 (.slice pa P.length pk) P) := OwnRow.rd OP.out
      have RA := Lib.hid OA.out.rd
      have RB := Lib.hid OB.out.rd
      clear C1 C2 OP OA OB
      go_upto_region 2 with (fail)
      have b5 := drew_ext w4
      have XE := b5
      refine wp_region_noPanic ?_
      refine wp_region_held_drew (S := fun w' => (w'.cell? ⟨w.heap.size, 0, none⟩ = some (.slice aa m0 ka) ∧ w'.cell? ⟨w.heap.size, 1, none⟩ = some (.bool g0) ∧ w'.cell? ⟨w.heap.size, 2, none⟩ = some (t1) ∧ w'.cell? ⟨w.heap.size, 3, none⟩ = some (t2)) ∧ (w'.cell? ⟨B6, 0, none⟩ = some (x0) ∧ w'.cell? ⟨B6, 1, none⟩ = some (x1) ∧ w'.cell? ⟨B6, 2, none⟩ = some (x2) ∧ w'.cell? ⟨B6, 3, none⟩ = some (x3))) (by kernel_rfl) (⟨(D1.out.ext XE).c4, (C6.out.ext XE).c4⟩) (fun hHeld => ?_)
      refine wpAnyH_ready (rs := [0]) (by kernel_rfl) (by simp) ?_
      refine AllReadyH.cons (o := _) rfl (fun K hK => ?_) AllReadyH.nil
      go_simp
      go_at_call 36; refine (awake08).mono ?_; rintro e w6 ⟨_, rfl, b6, rfl⟩; (first | have XE := Ext.trans XE b6 | have XE := Ext.trans (Ext.trans XE (Ext.alloc _ _)) b6)
      go_wp2_with fail
      refine hK.out _ _ (⟨(D1.out.ext XE).c4, (C6.out.ext XE).c4⟩) (fun hHeld => ?_)
      clear hK K
      try simp only [Act.put, List.getElem_toArray, List.getElem_cons_succ, List.getElem_cons_zero, List.setIfInBounds_toArray, List.set_cons_zero, List.set_cons_succ]
      refine wpAnyH_take (i := 1) (v := ?_) rfl (by kernel_rfl) (by kernel_rfl) (by kernel_rfl) (fun _ _ _ h => h) (Or.inl ⟨by rfl, fun w0 hSw => ?_⟩) hHeld ?_
      rotate_left
      · (try dsimp only at hSw)
        go_simp
        try with_reducible rfl
      simp only [Act.put, List.getElem_toArray, List.getElem_cons_succ, List.getElem_cons_zero, List.setIfInBounds_toArray, List.set_cons_zero, List.set_cons_succ]
      refine wpAnyH_take (i := 2) (v := ?_) rfl (by kernel_rfl) (by kernel_rfl) (by kernel_rfl) (fun _ _ _ h => h) (Or.inl ⟨by rfl, fun w0 hSw => ?_⟩) hHeld ?_
      rotate_left
      · (try dsimp only at hSw)
        go_simp
        try with_reducible rfl
      simp only [Act.put, List.getElem_toArray, List.getElem_cons_succ, List.getElem_cons_zero, List.setIfInBounds_toArray, List.set_cons_zero, List.set_cons_succ]
      refine wpAnyH_take (i := 3) (v := ?_) rfl (by kernel_rfl) (by kernel_rfl) (by kernel_rfl) (fun _ _ _ h => h) (Or.inl ⟨by rfl, fun w0 hSw => ?_⟩) hHeld ?_
      rotate_left
      · (try dsimp only at hSw)
        go_simp
        try with_reducible rfl
      simp only [Act.put, List.getElem_toArray, List.getElem_cons_succ, List.getElem_cons_zero, List.setIfInBounds_toArray, List.set_cons_zero, List.set_cons_succ]
      refine wpAnyH_take (i := 5) (v := ?_) rfl (by kernel_rfl) (by kernel_rfl) (by kernel_rfl) (fun _ _ _ h => h) (Or.inl ⟨by rfl, fun w0 hSw => ?_⟩) hHeld ?_
      rotate_left
      · (try dsimp only at hSw)
        go_simp
        try with_reducible rfl
      simp only [Act.put, List.getElem_toArray, List.getElem_cons_succ, List.getElem_cons_zero, List.setIfInBounds_toArray, List.set_cons_zero, List.set_cons_succ]
      refine wpAnyH_take (i := 8) (v := ?_) rfl (by kernel_rfl) (by kernel_rfl) (by kernel_rfl) (fun _ _ _ h => h) (Or.inl ⟨by rfl, fun w0 hSw => ?_⟩) hHeld ?_
      rotate_left
      · (try dsimp only at hSw)
        go_simp
        try with_reducible rfl
      simp only [Act.put, List.getElem_toArray, List.getElem_cons_succ, List.getElem_cons_zero, List.setIfInBounds_toArray, List.set_cons_zero, List.set_cons_succ]
      refine wpAnyH_take (i := 10) (v := ?_) rfl (by kernel_rfl) (by kernel_rfl) (by kernel_rfl) (fun _ _ _ h => h) (Or.inl ⟨by rfl, fun w0 hSw => ?_⟩) hHeld ?_
      rotate_left
      · (try dsimp only at hSw)
        go_simp
        try with_reducible rfl
      simp only [Act.put, List.getElem_toArray, List.getElem_cons_succ, List.getElem_cons_zero, List.setIfInBounds_toArray, List.set_cons_zero, List.set_cons_succ]
      refine wpAnyH_ready (rs := [4]) (by kernel_rfl) (by simp) ?_
      refine AllReadyH.cons (o := _) rfl (fun K hK => ?_) AllReadyH.nil
      go_simp
      go_at_call 31; refine (HEA.out _ _ (HV0.out.ext (Ext.trans b04 XE))).mono ?_; rintro e w7 ⟨v7, rfl, b7, o7⟩; have O7 := Lib.hid o7; clear o7; (first | have XE := Ext.trans XE b7 | have XE := Ext.trans (Ext.trans XE (Ext.alloc _ _)) b7)
      go_wp2_with fail
      refine hK.out _ _ (⟨(D1.out.ext XE).c4, (C6.out.ext XE).c4⟩) (fun hHeld => ?_)
      clear hK K
      try simp only [Act.put, List.getElem_toArray, List.getElem_cons_succ, List.getElem_cons_zero, List.setIfInBounds_toArray, List.set_cons_zero, List.set_cons_succ]
      refine wpAnyH_ready (rs := [6]) (by kernel_rfl) (by simp) ?_
      refine AllReadyH.cons (o := _) rfl (fun K hK => ?_) AllReadyH.nil
      go_simp
      go_at_call 51; refine (HPO.out _ _ (HV3.out.ext RdNp.ext (Ext.trans b04 XE))).mono ?_; rintro e w8 ⟨v8, rfl, b8, o8⟩; have O8 := Lib.hid o8; clear o8; (first | have XE := Ext.trans XE b8 | have XE := Ext.trans (Ext.trans XE (Ext.alloc _ _)) b8)
      go_wp2_with fail
      refine hK.out _ _ (⟨(D1.out.ext XE).c4, (C6.out.ext XE).c4⟩) (fun hHeld => ?_)
      clear hK K
      try simp only [Act.put, List.getElem_toArray, List.getElem_cons_succ, List.getElem_cons_zero, List.setIfInBounds_toArray, List.set_cons_zero, List.set_cons_succ]
      refine wpAnyH_ready (rs := [7]) (by kernel_rfl) (by simp) ?_
      refine AllReadyH.cons (o := _) rfl (fun K hK => ?_) AllReadyH.nil
      go_simp
      go_at_call 52; refine (lev_ok (O7.out.rd.ext b8) ZA.out.okx (OwnRow.rd O8.out) ZP8.out).mono ?_; rintro e w9 ⟨v9, rfl, b9, o9⟩; have O9 := Lib.hid o9; clear o9; (first | have XE := Ext.trans XE b9 | have XE := Ext.trans (Ext.trans XE (Ext.alloc _ _)) b9)
      go_wp2_with fail
      refine hK.out _ _ (⟨(D1.out.ext XE).c4, (C6.out.ext XE).c4⟩) (fun hHeld => ?_)
      clear hK K
      try simp only [Act.put, List.getElem_toArray, List.getElem_cons_succ, List.getElem_cons_zero, List.setIfInBounds_toArray, List.set_cons_zero, List.set_cons_succ]
      refine wpAnyH_ready (rs := [9]) (by kernel_rfl) (by simp) ?_
      refine AllReadyH.cons (o := _) rfl (fun K hK => ?_) AllReadyH.nil
      go_simp
      go_at_call 33; refine (told8_ok (RA.out.ext XE) ZA.out.okx).mono ?_; rintro e w10 ⟨v10, rfl, b10, o10⟩; have O10 := Lib.hid o10; clear o10; (first | have XE := Ext.trans XE b10 | have XE := Ext.trans (Ext.trans XE (Ext.alloc _ _)) b10)
      go_wp2_with fail
      refine hK.out _ _ (⟨(D1.out.ext XE).c4, (C6.out.ext XE).c4⟩) (fun hHeld => ?_)
      clear hK K
      try simp only [Act.put, List.getElem_toArray, List.getElem_cons_succ, List.getElem_cons_zero, List.setIfInBounds_toArray, List.set_cons_zero, List.set_cons_succ]
      refine wpAnyH_ready (rs := [11]) (by kernel_rfl) (by simp) ?_
      refine AllReadyH.cons (o := _) rfl (fun K hK => ?_) AllReadyH.nil
      go_simp
      go_at_call 24; refine (HNU.out _ _ (RP.out.ext OwnQ.ext XE)).mono ?_; rintro e w11 ⟨v11, rfl, b11, o11⟩; have O11 := Lib.hid o11; clear o11; (first | have XE := Ext.trans XE b11 | have XE := Ext.trans (Ext.trans XE (Ext.alloc _ _)) b11)
      go_wp2_with fail
      refine hK.out _ _ (⟨(D1.out.ext XE).c4, (C6.out.ext XE).c4⟩) (fun hHeld => ?_)
      clear hK K
      try simp only [Act.put, List.getElem_toArray, List.getElem_cons_succ, List.getElem_cons_zero, List.setIfInBounds_toArray, List.set_cons_zero, List.set_cons_succ]
      refine wpAnyH_ready (rs := [12]) (by kernel_rfl) (by simp) ?_
      refine AllReadyH.cons (o := _) rfl (fun K hK => ?_) AllReadyH.nil
      go_simp
      go_at_call 53; refine (HR8.out _ _ _ (O10.out.ext b11) O11.out).mono ?_; rintro e w12 ⟨v12, rfl, b12, o12⟩; have O12 := Lib.hid o12; clear o12; (first | have XE := Ext.trans XE b12 | have XE := Ext.trans (Ext.trans XE (Ext.alloc _ _)) b12)
      go_wp2_with fail
      refine hK.out _ _ (⟨(D1.out.ext XE).c4, (C6.out.ext XE).c4⟩) (fun hHeld => ?_)
      clear hK K
      try simp only [Act.put, List.getElem_toArray, List.getElem_cons_succ, List.getElem_cons_zero, List.setIfInBounds_toArray, List.set_cons_zero, List.set_cons_succ]
      refine wpAnyH_ready (rs := [13]) (by kernel_rfl) (by simp) ?_
      refine AllReadyH.cons (o := _) rfl (fun K hK => ?_) AllReadyH.nil
      go_simp
      go_at_call 47; refine (is_yes (O9.out.rd.ext (Ext.trans b10 (Ext.trans b11 b12))) O12.out.rd (VA.out.le (by decide))).mono ?_; rintro e w13 ⟨_, rfl, b13, rfl⟩; (first | have XE := Ext.trans XE b13 | have XE := Ext.trans (Ext.trans XE (Ext.alloc _ _)) b13)
      go_wp2_with fail
      refine hK.out _ _ (⟨(D1.out.ext XE).c4, (C6.out.ext XE).c4⟩) (fun hHeld => ?_)
      clear hK K
      try simp only [Act.put, List.getElem_toArray, List.getElem_cons_succ, List.getElem_cons_zero, List.setIfInBounds_toArray, List.set_cons_zero, List.set_cons_succ]
      refine wpAnyH_take (i := 14) (v := ?_) rfl (by kernel_rfl) (by kernel_rfl) (by kernel_rfl) (fun _ _ _ h => h) (Or.inl ⟨by rfl, fun w0 hSw => ?_⟩) hHeld ?_
      rotate_left
      · (try dsimp only at hSw)
        go_simp
        try with_reducible rfl
      simp only [Act.put, List.getElem_toArray, List.getElem_cons_succ, List.getElem_cons_zero, List.setIfInBounds_toArray, List.set_cons_zero, List.set_cons_succ]
      refine wpAnyH_take (i := 15) (v := ?_) rfl (by kernel_rfl) (by kernel_rfl) (by kernel_rfl) (fun _ _ _ h => h) (Or.inl ⟨by rfl, fun w0 hSw => ?_⟩) hHeld ?_
      rotate_left
      · (try dsimp only at hSw)
        go_simp
        try with_reducible rfl
      simp only [Act.put, List.getElem_toArray, List.getElem_cons_succ, List.getElem_cons_zero, List.setIfInBounds_toArray, List.set_cons_zero, List.set_cons_succ]
      refine wpAnyH_done (by kernel_rfl) ?_ _
      refine NoPanic.normal ?_
      have b413 : Ext w4 w13 := XE
      clear O7 O8 O9 O10 O11 O12 HNU HR8
      have E6 := Lib.hid (C6.out.ext b413)
      have E7 := Lib.hid (C7.out.ext b413)
      have HA1 : Hid (((ca + cb) + smv (fun x => cf la x + cf lb x) P 0 - ((ca + smv (cf la) P 0) + (cb + smv (cf lb) P 0))).num.sign = 0) := by
        show _ = _
        rw [num_sign_zero, sub_zero_iff, smv_add]
        grind
      have VS : Hid (Sz 2000 ((ca + cb) + smv (fun x => cf la x + cf lb x) P 0)) := by
        have h := sub_zero_iff.1 (num_sign_zero.1 HA1.out)
        show Sz _ _
        rw [h]
        exact (VA.out.add VB.out).le (by decide)
      have RP13 := Lib.hid (RP.out.ext OwnQ.ext b413)
      have RA13 := Lib.hid (RA.out.ext b413)
      have RB13 := Lib.hid (RB.out.ext b413)
      have b013 := Ext.trans b04 b413
      clear C6 C7 D1 D2 RP RA RB
      go_upto_region 4 with (fail)
      have b14 := drew_ext w13
      have XE := b14
      refine wp_region_noPanic ?_
      refine wp_region_held_drew (S := fun w' => (w'.cell? ⟨B6, 0, none⟩ = some (x0) ∧ w'.cell? ⟨B6, 1, none⟩ = some (x1) ∧ w'.cell? ⟨B6, 2, none⟩ = some (x2) ∧ w'.cell? ⟨B6, 3, none⟩ = some (x3)) ∧ (w'.cell? ⟨B7, 0, none⟩ = some (y0) ∧ w'.cell? ⟨B7, 1, none⟩ = some (y1) ∧ w'.cell? ⟨B7, 2, none⟩ = some (y2) ∧ w'.cell? ⟨B7, 3, none⟩ = some (y3))) (by kernel_rfl) (⟨(E6.out.ext XE).c4, (E7.out.ext XE).c4⟩) (fun hHeld => ?_)
      refine wpAnyH_take (i := 0) (v := ?_) rfl (by kernel_rfl) (by kernel_rfl) (by kernel_rfl) (fun _ _ _ h => h) (Or.inl ⟨by rfl, fun w0 hSw => ?_⟩) hHeld ?_
      rotate_left
      · (try dsimp only at hSw)
        go_simp
        try with_reducible rfl
      simp only [Act.put, List.getElem_toArray, List.getElem_cons_succ, List.getElem_cons_zero, List.setIfInBounds_toArray, List.set_cons_zero, List.set_cons_succ]
      refine wpAnyH_take (i := 1) (v := ?_) rfl (by kernel_rfl) (by kernel_rfl) (by kernel_rfl) (fun _ _ _ h => h) (Or.inl ⟨by rfl, fun w0 hSw => ?_⟩) hHeld ?_
      rotate_left
      · (try dsimp only at hSw)
        go_simp
        try with_reducible rfl
      simp only [Act.put, List.getElem_toArray, List.getElem_cons_succ, List.getElem_cons_zero, List.setIfInBounds_toArray, List.set_cons_zero, List.set_cons_succ]
      refine wpAnyH_take (i := 3) (v := ?_) rfl (by kernel_rfl) (by kernel_rfl) (by kernel_rfl) (fun _ _ _ h => h) (Or.inl ⟨by rfl, fun w0 hSw => ?_⟩) hHeld ?_
      rotate_left
      · (try dsimp only at hSw)
        go_simp
        try with_reducible rfl
      simp only [Act.put, List.getElem_toArray, List.getElem_cons_succ, List.getElem_cons_zero, List.setIfInBounds_toArray, List.set_cons_zero, List.set_cons_succ]
      refine wpAnyH_take (i := 5) (v := ?_) rfl (by kernel_rfl) (by kernel_rfl) (by kernel_rfl) (fun _ _ _ h => h) (Or.inl ⟨by rfl, fun w0 hSw => ?_⟩) hHeld ?_
      rotate_left
      · (try dsimp only at hSw)
        go_simp
        try with_reducible rfl
      simp only [Act.put, List.getElem_toArray, List.getElem_cons_succ, List.getElem_cons_zero, List.setIfInBounds_toArray, List.set_cons_zero, List.set_cons_succ]
      refine wpAnyH_take (i := 6) (v := ?_) rfl (by kernel_rfl) (by kernel_rfl) (by kernel_rfl) (fun _ _ _ h => h) (Or.inl ⟨by rfl, fun w0 hSw => ?_⟩) hHeld ?_
      rotate_left
      · (try dsimp only at hSw)
        go_simp
        try with_reducible rfl
      simp only [Act.put, List.getElem_toArray, List.getElem_cons_succ, List.getElem_cons_zero, List.setIfInBounds_toArray, List.set_cons_zero, List.set_cons_succ]
      refine wpAnyH_take (i := 8) (v := ?_) rfl (by kernel_rfl) (by kernel_rfl) (by kernel_rfl) (fun _ _ _ h => h) (Or.inl ⟨by rfl, fun w0 hSw => ?_⟩) hHeld ?_
      rotate_left
      · (try dsimp only at hSw)
        go_simp
        try with_reducible rfl
      simp only [Act.put, List.getElem_toArray, List.getElem_cons_succ, List.getElem_cons_zero, List.setIfInBounds_toArray, List.set_cons_zero, List.set_cons_succ]
      refine wpAnyH_take (i := 9) (v := ?_) rfl (by kernel_rfl) (by kernel_rfl) (by kernel_rfl) (fun _ _ _ h => h) (Or.inl ⟨by rfl, fun w0 hSw => ?_⟩) hHeld ?_
      rotate_left
      · (try dsimp only at hSw)
        go_simp
        try with_reducible rfl
      simp only [Act.put, List.getElem_toArray, List.getElem_cons_succ, List.getElem_cons_zero, List.setIfInBounds_toArray, List.set_cons_zero, List.set_cons_succ]
      refine wpAnyH_ready (rs := [2]) (by kernel_rfl) (by simp) ?_
      refine AllReadyH.cons (o := _) rfl (fun K hK => ?_) AllReadyH.nil
      go_simp
      go_at_call 40; refine (rep_add (RA13.out.ext XE) (RB13.out.ext XE) ZA.out ZB.out).mono ?_; rintro e w15 ⟨v15, rfl, b15, o15⟩; have O15 := Lib.hid o15; clear o15; (first | have XE := Ext.trans XE b15 | have XE := Ext.trans (Ext.trans XE (Ext.alloc _ _)) b15)
      go_wp2_with fail
      refine hK.out _ _ (⟨(E6.out.ext XE).c4, (E7.out.ext XE).c4⟩) (fun hHeld => ?_)
      clear hK K
      try simp only [Act.put, List.getElem_toArray, List.getElem_cons_succ, List.getElem_cons_zero, List.setIfInBounds_toArray, List.set_cons_zero, List.set_cons_succ]
      refine wpAnyH_ready (rs := [4]) (by kernel_rfl) (by simp) ?_
      refine AllReadyH.cons (o := _) rfl (fun K hK => ?_) AllReadyH.nil
      go_simp
      go_at_call 52; refine (lev_rep O15.out (RP13.out.ext OwnQ.ext XE) ZP8.out).mono ?_; rintro e w16 ⟨v16, rfl, b16, o16⟩; have O16 := Lib.hid o16; clear o16; (first | have XE := Ext.trans XE b16 | have XE := Ext.trans (Ext.trans XE (Ext.alloc _ _)) b16)
      go_wp2_with fail
      refine hK.out _ _ (⟨(E6.out.ext XE).c4, (E7.out.ext XE).c4⟩) (fun hHeld => ?_)
      clear hK K
      try simp only [Act.put, List.getElem_toArray, List.getElem_cons_succ, List.getElem_cons_zero, List.setIfInBounds_toArray, List.set_cons_zero, List.set_cons_succ]
      refine wpAnyH_ready (rs := [7]) (by kernel_rfl) (by simp) ?_
      refine AllReadyH.cons (o := _) rfl (fun K hK => ?_) AllReadyH.nil
      go_simp
      go_at_call 52; refine (lev_ok (RA13.out.ext XE) ZA.out.okx (RP13.out.ext OwnQ.ext XE) ZP8.out).mono ?_; rintro e w17 ⟨v17, rfl, b17, o17⟩; have O17 := Lib.hid o17; clear o17; (first | have XE := Ext.trans XE b17 | have XE := Ext.trans (Ext.trans XE (Ext.alloc _ _)) b17)
      go_wp2_with fail
      refine hK.out _ _ (⟨(E6.out.ext XE).c4, (E7.out.ext XE).c4⟩) (fun hHeld => ?_)
      clear hK K
      try simp only [Act.put, List.getElem_toArray, List.getElem_cons_succ, List.getElem_cons_zero, List.setIfInBounds_toArray, List.set_cons_zero, List.set_cons_succ]
      refine wpAnyH_ready (rs := [10]) (by kernel_rfl) (by simp) ?_
      refine AllReadyH.cons (o := _) rfl (fun K hK => ?_) AllReadyH.nil
      go_simp
      go_at_call 52; refine (lev_ok (RB13.out.ext XE) ZB.out.okx (RP13.out.ext OwnQ.ext XE) ZP8.out).mono ?_; rintro e w18 ⟨v18, rfl, b18, o18⟩; have O18 := Lib.hid o18; clear o18; (first | have XE := Ext.trans XE b18 | have XE := Ext.trans (Ext.trans XE (Ext.alloc _ _)) b18)
      go_wp2_with fail
      refine hK.out _ _ (⟨(E6.out.ext XE).c4, (E7.out.ext XE).c4⟩) (fun hHeld => ?_)
      clear hK K
      try simp only [Act.put, List.getElem_toArray, List.getElem_cons_succ, List.getElem_cons_zero, List.setIfInBounds_toArray, List.set_cons_zero, List.set_cons_succ]
      refine wpAnyH_ready (rs := [11]) (by kernel_rfl) (by simp) ?_
      refine AllReadyH.cons (o := _) rfl (fun K hK => ?_) AllReadyH.nil
      go_simp
      go_at_call 28; refine (radd_any (O17.out.rd.ext b18) O18.out.rd (VA.out.le (by decide)) (VB.out.le (by decide))).mono ?_; rintro e w19 ⟨v19, rfl, b19, o19⟩; have O19 := Lib.hid o19; clear o19; (first | have XE := Ext.trans XE b19 | have XE := Ext.trans (Ext.trans XE (Ext.alloc _ _)) b19)
      go_wp2_with fail
      refine hK.out _ _ (⟨(E6.out.ext XE).c4, (E7.out.ext XE).c4⟩) (fun hHeld => ?_)
      clear hK K
      try simp only [Act.put, List.getElem_toArray, List.getElem_cons_succ, List.getElem_cons_zero, List.setIfInBounds_toArray, List.set_cons_zero, List.set_cons_succ]
      refine wpAnyH_ready (rs := [12]) (by kernel_rfl) (by simp) ?_
      refine AllReadyH.cons (o := _) rfl (fun K hK => ?_) AllReadyH.nil
      go_simp
      go_at_call 30; refine (HA1.out ▸ rcmp_any (O16.out.rd.ext (Ext.trans b17 (Ext.trans b18 b19))) O19.out.rd (VS.out.le (by decide)) ((VA.out.add VB.out).le (by decide))).mono ?_; rintro e w20 ⟨_, rfl, b20, rfl⟩; (first | have XE := Ext.trans XE b20 | have XE := Ext.trans (Ext.trans XE (Ext.alloc _ _)) b20)
      go_wp2_with fail
      refine hK.out _ _ (⟨(E6.out.ext XE).c4, (E7.out.ext XE).c4⟩) (fun hHeld => ?_)
      clear hK K
      try simp only [Act.put, List.getElem_toArray, List.getElem_cons_succ, List.getElem_cons_zero, List.setIfInBounds_toArray, List.set_cons_zero, List.set_cons_succ]
      refine wpAnyH_take (i := 13) (v := ?_) rfl (by kernel_rfl) (by kernel_rfl) (by kernel_rfl) (fun _ _ _ h => h) (Or.inl ⟨by rfl, fun w0 hSw => ?_⟩) hHeld ?_
      rotate_left
      · (try dsimp only at hSw)
        go_simp
        try with_reducible rfl
      simp only [Act.put, List.getElem_toArray, List.getElem_cons_succ, List.getElem_cons_zero, List.setIfInBounds_toArray, List.set_cons_zero, List.set_cons_succ]
      refine wpAnyH_done (by kernel_rfl) ?_ _
      refine NoPanic.normal ?_
      have b1320 : Ext w13 w20 := XE
      clear O15 O16 O17 O18 O19 HA1 VS
      have F6 := Lib.hid (E6.out.ext b1320)
      have F7 := Lib.hid (E7.out.ext b1320)
      have RP20 := Lib.hid (RP13.out.ext OwnQ.ext b1320)
      have RA20 := Lib.hid (RA13.out.ext b1320)
      have RB20 := Lib.hid (RB13.out.ext b1320)
      have b020 := Ext.trans b013 b1320
      clear E6 E7 RP13 RA13 RB13
      by_cases hx0 : x < 0
      · have hd : decide (x < 0) = true := decide_eq_true hx0
        go_wp2_with fail
        exact hR.out _ _ (Gives.mk b020 rfl)
      · have hd : decide (x < 0) = false := decide_eq_false hx0
        by_cases hxP : (P.length : Int) ≤ x
        · have hd2 : decide ((P.length : Int) ≤ x) = true := decide_eq_true hxP
          go_wp2_with fail
          exact hR.out _ _ (Gives.mk b020 rfl)
        · have hd2 : decide ((P.length : Int) ≤ x) = false := decide_eq_false hxP
          obtain ⟨i, rfl⟩ : ∃ i : Nat, x = i := ⟨x.toNat, by omega⟩
          have hi : i < P.length := by omega
          have hnp := NP.out
          have HI : Hid (i < P.length) := hi
          have hI1 : IntKind.i64.wrap (i : Int) = (i : Int) := by rw [IntKind.wrap_i64]; omega
          have hI2 : (0 : Int) ≤ (i : Int) ∧ (i : Int) < (P.length : Int) := ⟨by omega, by omega⟩
          have HSB : Hid (((ca + cf la i * cb) + smv (fun u => cf (rst la i) u + cf la i * cf lb u) P 0 - (ca + smv (cf la) (P.set i (cb + smv (cf lb) P 0)) 0)).num.sign = 0) := by
            show _ = _
            rw [num_sign_zero, sub_zero_iff]
            exact subst_law hi
          have HPS : Hid (∀ p ∈ P.set i (cb + smv (cf lb) P 0), Sz 800 p) := fun p hp => by
            rcases List.mem_or_eq_of_mem_set hp with h | h
            · exact ZP8.out p h
            · rw [h]; exact VB.out.le (by decide)
          have HVS : Hid (Sz 6000 (ca + smv (cf la) (P.set i (cb + smv (cf lb) P 0)) 0)) := by
            have h := smv_sz (L := 109) (M := 800) (N := 8) ca ZA.out.2.2 ZA.out.cf HPS.out (P.set i (cb + smv (cf lb) P 0)).length (Nat.le_refl _)
            rw [List.take_length, List.length_set] at h
            exact h.le (by omega)
          have HVT : Hid (Sz 6000 ((ca + cf la i * cb) + smv (fun u => cf (rst la i) u + cf la i * cf lb u) P 0)) := by
            have h := sub_zero_iff.1 (num_sign_zero.1 HSB.out)
            show Sz _ _
            rw [h]
            exact HVS.out
          obtain ⟨val, hval⟩ : ∃ val, cb + smv (cf lb) P 0 = val := ⟨_, rfl⟩
          have HEV : Hid (∀ w v vp, RdX w v lb cb → RdRow 3 (OwnQp 163) w vp P → Calls Try.prog 52 #[v, vp] w (Gives w fun v' w' => OwnQ 163 0 w' v' val)) := fun w v vp h1 h2 => by
            rw [← hval]
            exact lev_ok h1 ZB.out.okx h2 ZP8.out
          rw [hval] at HSB HPS HVS
          clear hval hi hnp
          go_upto_region 8 with (fail)
          go_wp2_with fail
          refine (HPW.out _ _ (HV3.out.ext RdNp.ext b020)).mono ?_
          rintro e w21 ⟨_, rfl, b21, o21⟩
          obtain ⟨qa, qk, rfl, -, -⟩ := o21.rd.shape
          have OQ := Lib.hid o21
          clear o21
          obtain ⟨k0, k1, k2, k3'⟩ := (F7.out.ext b21).c4
          go_wp2_with fail
          refine (HEV.out _ _ _ (RB20.out.ext b21) (RP20.out.ext OwnQ.ext b21)).mono ?_
          rintro e w22 ⟨_, rfl, b22, o22⟩
          obtain ⟨s9, a9, l9, c9, a8, l8, c8, rfl, O22⟩ := o22.op
          clear o22 k0 k1 k2 k3'
          obtain ⟨gq, hqa, hgq, ⟨u0, u1, u2, e0, e1, e2, i0, i1, i2⟩, cur, hcur, hset⟩ := OwnRow.set3 (OwnRow.ext OQ.out OwnQ.ext b22) i HI.out
          subst hqa
          have hrt : Rt w22 gq cur.size 32 := ⟨cur, rfl, hcur⟩
          have HS3 := Lib.hid (hset (.bool s9) (.slice a9 l9 c9) (.slice a8 l8 c8) val (fun c b h => OwnQ.putT h hrt (by decide) (i * 3) [.bool s9, .slice a9 l9 c9, .slice a8 l8 c8]) (OwnQ.putT O22.out hrt (by decide) (i * 3) [.bool s9, .slice a9 l9 c9, .slice a8 l8 c8]))
          have X22 : Hid (Ext w20 (((w22.setCell ⟨gq, i * 3, none⟩ (.bool s9)).setCell ⟨gq, i * 3 + 1, none⟩ (.slice a9 l9 c9)).setCell ⟨gq, i * 3 + 2, none⟩ (.slice a8 l8 c8))) := ((Below.setCell (Ext.trans b21 b22) hgq _).setCell hgq _).setCell hgq _
          clear hset hcur hrt OQ
          obtain ⟨w23, hw23⟩ : ∃ w23, w23 = ((w22.setCell ⟨gq, i * 3, none⟩ (.bool s9)).setCell ⟨gq, i * 3 + 1, none⟩ (.slice a9 l9 c9)).setCell ⟨gq, i * 3 + 2, none⟩ (.slice a8 l8 c8) := ⟨_, rfl⟩
          rw [← hw23] at HS3 X22
          have HW := Lib.hid hw23
          clear hw23
          go_upto_region 10 with (fail)
          rw [← HW.out]
          clear HW e0 e1 e2 i0 i1 i2
          have G6 := Lib.hid (F6.out.ext X22.out)
          have G7 := Lib.hid (F7.out.ext X22.out)
          have RP23 := Lib.hid (RP20.out.ext OwnQ.ext X22.out)
          have RA23 := Lib.hid (RA20.out.ext X22.out)
          have RB23 := Lib.hid (RB20.out.ext X22.out)
          have b023 := Ext.trans b020 X22.out
          have b24 := drew_ext w23
          have XE := b24
          refine wp_region_noPanic ?_
          refine wp_region_held_drew (S := fun w' => (w'.cell? ⟨B6, 0, none⟩ = some (x0) ∧ w'.cell? ⟨B6, 1, none⟩ = some (x1) ∧ w'.cell? ⟨B6, 2, none⟩ = some (x2) ∧ w'.cell? ⟨B6, 3, none⟩ = some (x3)) ∧ (w'.cell? ⟨B7, 0, none⟩ = some (y0) ∧ w'.cell? ⟨B7, 1, none⟩ = some (y1) ∧ w'.cell? ⟨B7, 2, none⟩ = some (y2) ∧ w'.cell? ⟨B7, 3, none⟩ = some (y3))) (by kernel_rfl) (⟨(G6.out.ext XE).c4, (G7.out.ext XE).c4⟩) (fun hHeld => ?_)
          refine wpAnyH_take (i := 0) (v := ?_) rfl (by kernel_rfl) (by kernel_rfl) (by kernel_rfl) (fun _ _ _ h => h) (Or.inl ⟨by rfl, fun w0 hSw => ?_⟩) hHeld ?_
          rotate_left
          · (try dsimp only at hSw)
            go_simp
            try with_reducible rfl
          simp only [Act.put, List.getElem_toArray, List.getElem_cons_succ, List.getElem_cons_zero, List.setIfInBounds_toArray, List.set_cons_zero, List.set_cons_succ]
          refine wpAnyH_take (i := 1) (v := ?_) rfl (by kernel_rfl) (by kernel_rfl) (by kernel_rfl) (fun _ _ _ h => h) (Or.inl ⟨by rfl, fun w0 hSw => ?_⟩) hHeld ?_
          rotate_left
          · (try dsimp only at hSw)
            go_simp
            try with_reducible rfl
          simp only [Act.put, List.getElem_toArray, List.getElem_cons_succ, List.getElem_cons_zero, List.setIfInBounds_toArray, List.set_cons_zero, List.set_cons_succ]
          refine wpAnyH_take (i := 2) (v := ?_) rfl (by kernel_rfl) (by kernel_rfl) (by kernel_rfl) (fun _ _ _ h => h) (Or.inl ⟨by rfl, fun w0 hSw => ?_⟩) hHeld ?_
          rotate_left
          · (try dsimp only at hSw)
            go_simp
            try with_reducible rfl
          simp only [Act.put, List.getElem_toArray, List.getElem_cons_succ, List.getElem_cons_zero, List.setIfInBounds_toArray, List.set_cons_zero, List.set_cons_succ]
          refine wpAnyH_take (i := 4) (v := ?_) rfl (by kernel_rfl) (by kernel_rfl) (by kernel_rfl) (fun _ _ _ h => h) (Or.inl ⟨by rfl, fun w0 hSw => ?_⟩) hHeld ?_
          rotate_left
          · (try dsimp only at hSw)
            go_simp
            try with_reducible rfl
          simp only [Act.put, List.getElem_toArray, List.getElem_cons_succ, List.getElem_cons_zero, List.setIfInBounds_toArray, List.set_cons_zero, List.set_cons_succ]
          refine wpAnyH_take (i := 6) (v := ?_) rfl (by kernel_rfl) (by kernel_rfl) (by kernel_rfl) (fun _ _ _ h => h) (Or.inl ⟨by rfl, fun w0 hSw => ?_⟩) hHeld ?_
          rotate_left
          · (try dsimp only at hSw)
            go_simp
            try with_reducible rfl
          simp only [Act.put, List.getElem_toArray, List.getElem_cons_succ, List.getElem_cons_zero, List.setIfInBounds_toArray, List.set_cons_zero, List.set_cons_succ]
          refine wpAnyH_take (i := 7) (v := ?_) rfl (by kernel_rfl) (by kernel_rfl) (by kernel_rfl) (fun _ _ _ h => h) (Or.inl ⟨by rfl, fun w0 hSw => ?_⟩) hHeld ?_
          rotate_left
          · (try dsimp only at hSw)
            go_simp
            try with_reducible rfl
          simp only [Act.put, List.getElem_toArray, List.getElem_cons_succ, List.getElem_cons_zero, List.setIfInBounds_toArray, List.set_cons_zero, List.set_cons_succ]
          refine wpAnyH_ready (rs := [3]) (by kernel_rfl) (by simp) ?_
          refine AllReadyH.cons (o := _) rfl (fun K hK => ?_) AllReadyH.nil
          go_simp
          go_at_call 45; refine (rep_subst (x := (i : Int)) (RA23.out.ext XE) (RB23.out.ext XE) ZA.out ZB.out).mono ?_; rintro e w25 ⟨v25, rfl, b25, o25⟩; have O25 := Lib.hid o25; clear o25; (first | have XE := Ext.trans XE b25 | have XE := Ext.trans (Ext.trans XE (Ext.alloc _ _)) b25)
          go_wp2_with fail
          refine hK.out _ _ (⟨(G6.out.ext XE).c4, (G7.out.ext XE).c4⟩) (fun hHeld => ?_)
          clear hK K
          try simp only [Act.put, List.getElem_toArray, List.getElem_cons_succ, List.getElem_cons_zero, List.setIfInBounds_toArray, List.set_cons_zero, List.set_cons_succ]
          refine wpAnyH_ready (rs := [5]) (by kernel_rfl) (by simp) ?_
          refine AllReadyH.cons (o := _) rfl (fun K hK => ?_) AllReadyH.nil
          go_simp
          go_at_call 52; refine (lev_rep O25.out (RP23.out.ext OwnQ.ext XE) ZP8.out).mono ?_; rintro e w26 ⟨v26, rfl, b26, o26⟩; have O26 := Lib.hid o26; clear o26; (first | have XE := Ext.trans XE b26 | have XE := Ext.trans (Ext.trans XE (Ext.alloc _ _)) b26)
          go_wp2_with fail
          refine hK.out _ _ (⟨(G6.out.ext XE).c4, (G7.out.ext XE).c4⟩) (fun hHeld => ?_)
          clear hK K
          try simp only [Act.put, List.getElem_toArray, List.getElem_cons_succ, List.getElem_cons_zero, List.setIfInBounds_toArray, List.set_cons_zero, List.set_cons_succ]
          refine wpAnyH_ready (rs := [8]) (by kernel_rfl) (by simp) ?_
          refine AllReadyH.cons (o := _) rfl (fun K hK => ?_) AllReadyH.nil
          go_simp
          go_at_call 52; refine (lev_ok (RA23.out.ext XE) ZA.out.okx (HS3.out.ext OwnQ.ext XE) HPS.out).mono ?_; rintro e w27 ⟨v27, rfl, b27, o27⟩; have O27 := Lib.hid o27; clear o27; (first | have XE := Ext.trans XE b27 | have XE := Ext.trans (Ext.trans XE (Ext.alloc _ _)) b27)
          go_wp2_with fail
          refine hK.out _ _ (⟨(G6.out.ext XE).c4, (G7.out.ext XE).c4⟩) (fun hHeld => ?_)
          clear hK K
          try simp only [Act.put, List.getElem_toArray, List.getElem_cons_succ, List.getElem_cons_zero, List.setIfInBounds_toArray, List.set_cons_zero, List.set_cons_succ]
          refine wpAnyH_ready (rs := [9]) (by kernel_rfl) (by simp) ?_
          refine AllReadyH.cons (o := _) rfl (fun K hK => ?_) AllReadyH.nil
          go_simp
          go_at_call 30; refine (HSB.out ▸ rcmp_any (O26.out.rd.ext b27) O27.out.rd (HVT.out.le (by decide)) (HVS.out.le (by decide))).mono ?_; rintro e w28 ⟨_, rfl, b28, rfl⟩; (first | have XE := Ext.trans XE b28 | have XE := Ext.trans (Ext.trans XE (Ext.alloc _ _)) b28)
          go_wp2_with fail
          refine hK.out _ _ (⟨(G6.out.ext XE).c4, (G7.out.ext XE).c4⟩) (fun hHeld => ?_)
          clear hK K
          try simp only [Act.put, List.getElem_toArray, List.getElem_cons_succ, List.getElem_cons_zero, List.setIfInBounds_toArray, List.set_cons_zero, List.set_cons_succ]
          refine wpAnyH_take (i := 10) (v := ?_) rfl (by kernel_rfl) (by kernel_rfl) (by kernel_rfl) (fun _ _ _ h => h) (Or.inl ⟨by rfl, fun w0 hSw => ?_⟩) hHeld ?_
          rotate_left
          · (try dsimp only at hSw)
            go_simp
            try with_reducible rfl
          simp only [Act.put, List.getElem_toArray, List.getElem_cons_succ, List.getElem_cons_zero, List.setIfInBounds_toArray, List.set_cons_zero, List.set_cons_succ]
          refine wpAnyH_take (i := 11) (v := ?_) rfl (by kernel_rfl) (by kernel_rfl) (by kernel_rfl) (fun _ _ _ h => h) (Or.inl ⟨by rfl, fun w0 hSw => ?_⟩) hHeld ?_
          rotate_left
          · (try dsimp only at hSw)
            go_simp
            try with_reducible rfl
          simp only [Act.put, List.getElem_toArray, List.getElem_cons_succ, List.getElem_cons_zero, List.setIfInBounds_toArray, List.set_cons_zero, List.set_cons_succ]
          refine wpAnyH_done (by kernel_rfl) ?_ _
          refine NoPanic.normal ?_
          go_wp2_with fail
          exact hR.out _ _ (Gives.mk (Ext.trans b023 XE) rfl)
theorem own : ownKnob Try.prog.godebug = none := by kernel_rfl
theorem laidOut : laidOutB Try.prog = true := by kernel_rfl

set_option maxRecDepth 100000 in
theorem contract (H : Type) (enc : TypeId × Value → H) (W : World) (base : Nat) (args : Array Value) (ds gs : List (DataW H)) (before : List MemPlace)
    (hval : ∀ (j : Nat) t v, Try.f9.params[j]? = some t → args[j]? = some v → Value.okWide Try.prog W .any base t v)
    (hW : DataW.Whole enc Try.prog Try.f9.params.toList Rows.linValuesSpec.vars false W args.toList ds gs before) (hk : Rows.uptoSmall H (ds ++ gs) = true) :
    Calls Try.prog 9 args W fun e W' => ∃ v, e = .returned v ∧ Rows.linValuesSpec.post enc Try.prog Try.f9 false true false false W args v W' := by
  have hW' := hW
  obtain ⟨p, q, hA0, hV, rfl, hfz, hnd⟩ := hW
  have hA : DataW.TrodAll enc Try.prog W 0 (fun _ => true) true Try.f9.params.toList args.toList ds p := hA0
  rw [Try.params9] at hA hval
  obtain ⟨v0, vs0, d0, ds0, p0, q0, hargs, rfl, rfl, h0, r0⟩ := trodAll_cons hA
  obtain ⟨v1, vs1, d1, ds1, p1, q1, rfl, rfl, rfl, h1, r1⟩ := trodAll_cons r0
  obtain ⟨v2, vs2, d2, ds2, p2, q2, rfl, rfl, rfl, h2, r2⟩ := trodAll_cons r1
  obtain ⟨v3, vs3, d3, ds3, p3, q3, rfl, rfl, rfl, h3, r3⟩ := trodAll_cons r2
  obtain ⟨rfl, rfl, rfl⟩ := trodAll_nil r3
  obtain rfl : args = #[v0, v1, v2, v3] := by cases args; simp_all
  obtain ⟨rfl, rfl⟩ := trodVars_none hV
  have hb := bulk_small hk
  simp only [List.append_nil, bulk_cons, bulk_nil] at hb
  have k0 := h0
  have lt0 : ∀ x ∈ p0, x.block < W.heap.size := by obtain ⟨m, hm⟩ := k0; exact DataW.trod_lt m _ _ _ hm
  obtain ⟨l0, n0, rd0, bd0, bn0, len0⟩ := open_E (hval 0 60 v0 rfl rfl) h0
  have k1 := h1
  have lt1 : ∀ x ∈ p1, x.block < W.heap.size := by obtain ⟨m, hm⟩ := k1; exact DataW.trod_lt m _ _ _ hm
  obtain ⟨l1, n1, rd1, bd1, bn1, len1⟩ := open_E (hval 1 60 v1 rfl rfl) h1
  obtain ⟨a2, rfl, rfl, rfl, wf2⟩ := open_int Try.underlying3 (hval 2 3 v2 rfl rfl) h2
  have k3 := h3
  have lt3 : ∀ x ∈ p3, x.block < W.heap.size := by obtain ⟨m, hm⟩ := k3; exact DataW.trod_lt m _ _ _ hm
  obtain ⟨l3, rd3, bd3, len3⟩ := open_rowN Try.underlying22 (hval 3 22 v3 rfl rfl) h3
  clear hA0
  refine (walk rd0 (fun p hp => by have := bd0 p hp; omega) (by omega) (by omega) rd1 (fun p hp => by have := bd1 p hp; omega) (by omega) (by omega) (wf_int wf2) rd3 (fun p hp => by have := bd3 p hp; omega) (by omega)).mono fun e W' ⟨v, he, bel, hv⟩ => ?_
  subst he hv
  exact ⟨_, rfl, _, _, _, [], _, [], hW', trodAll_mk1 (shut_bool Try.underlying4 _), (trodAll_cons_mk (Below.trod laidOut (by kernel_rfl) (of_decide_eq_true (by kernel_rfl)) k0 bel lt0) (trodAll_cons_mk (Below.trod laidOut (by kernel_rfl) (of_decide_eq_true (by kernel_rfl)) k1 bel lt1) (trodAll_cons_mk (shut_int Try.underlying3 wf2) (trodAll_cons_mk (Below.trod laidOut (by kernel_rfl) (of_decide_eq_true (by kernel_rfl)) k3 bel lt3) trodAll_mk0)))), rfl, bel.frame _, fun h => by cases h⟩

set_option maxRecDepth 100000 in
theorem lifted (os : Os) (started : os.Started) (H : Type) (enc : TypeId × Value → H) (F : Stop.Interp) :
    ReturnsInHanded {} Try.checked os 9 .any ((Rows.OpenSpec.upto Rows.linValuesSpec).pre6 enc Try.prog Try.f9 Rows.linValuesUptoRow.domain false) (((Rows.OpenSpec.upto Rows.linValuesSpec).at F).post enc Try.prog Try.f9 false true false false) := by
  refine returnsInHanded_of_cond (C := Try.checked) (s := Rows.OpenSpec.upto Rows.linValuesSpec) (k := Rows.uptoSmall) rfl own started (by kernel_rfl) Try.func9
    (OpenSpec.witness (enc := enc) (C := Try.checked) (s := Rows.OpenSpec.upto Rows.linValuesSpec) (k := Rows.uptoSmall) rfl false ⟨#[], #[.agg #[.slice none 0 0, .bool false, .slice none 0 0, .slice none 0 0], .agg #[.slice none 0 0, .bool false, .slice none 0 0, .slice none 0 0], .int .i64 0, .slice none 0 0], []⟩ 8 (by kernel_rfl) (by kernel_rfl) (by kernel_rfl)
      (x := ([.agg [.nil, .agg [.lit (.bool false), .nil, .nil]], .agg [.nil, .agg [.lit (.bool false), .nil, .nil]], .lit (.int .i64 0), .nil], [], [])) (by kernel_rfl) rfl (by kernel_rfl)) ?_
  intro W base args ds gs before hval hW _ hk _
  exact contract H enc W base args ds gs before hval hW hk

theorem proved : Rows.LinValuesUptoSaid :=
  OpenClaim.holds_of_cond 9 Try.f9 rfl rfl rfl rfl rfl rfl rfl ⟨rfl, rfl, rfl, rfl, rfl⟩ rfl rfl rfl rfl rfl (by kernel_rfl) Try.func9 (by kernel_rfl)
    (of_decide_eq_true (by kernel_rfl)) (by unfold Func.isWrapper; first | (rw [if_pos (by decide +kernel)]; kernel_rfl) | (rw [if_neg (by decide +kernel)]; exact ⟨rfl, rfl⟩))
    (fun os started H enc _ F => lifted os started H enc F)
#print axioms proved

end Go.Proofs.Ytnbbhpihlcglgaa.linValues
