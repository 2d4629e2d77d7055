/- LinSames: two expressions are told to be the same just if they mean the same sum. Conditions: the arguments hold together at most 1048576 values (the second form, Upto). -/
import Derived.Test.YtnbbhpihlcglgaaFrameE
import Derived.Test.YtnbbhpihlcglgaaLinPlain
import Derived.Test.YtnbbhpihlcglgaaPLinReps
import Derived.Test.YtnbbhpihlcglgaaPAwake08
import Derived.Great.BuildSlice
namespace Go.Proofs.Ytnbbhpihlcglgaa.linSames
open Go.ChangeShapes Go.WideShapes Go.ChangeAt Go.RowKit Go.Att

theorem fill2 (a0 : Option Addr) (n0 k0 : Nat) (s0 : Bool) (a1 : Option Addr) (n1 k1 : Nat) (a2 : Option Addr) (n2 k2 : Nat) (b0 : Option Addr) (m0 j0 : Nat) (t0 : Bool) (b1 : Option Addr) (m1 j1 : Nat) (b2 : Option Addr) (m2 j2 : Nat) :
    Instr.fill (fun i => some (i * 4, 4)) ((Array.range (2 * 4)).map ((Value.agg #[.slice none 0 0, .bool false, .slice none 0 0, .slice none 0 0]).cells[· % (Value.agg #[.slice none 0 0, .bool false, .slice none 0 0, .slice none 0 0]).cells.size]!)) [(0, .agg #[.slice a0 n0 k0, .bool s0, .slice a1 n1 k1, .slice a2 n2 k2]), (1, .agg #[.slice b0 m0 j0, .bool t0, .slice b1 m1 j1, .slice b2 m2 j2])] = some #[.slice a0 n0 k0, .bool s0, .slice a1 n1 k1, .slice a2 n2 k2, .slice b0 m0 j0, .bool t0, .slice b1 m1 j1, .slice b2 m2 j2] := by kernel_rfl
/-- A literal of two expressions. -/
theorem build2K {P : Program} {o : Oper} {a : Act} {K : Act → World → Prop} {Q : Exit → Act → World → Prop} {w : World} {t e : TypeId} {bytes : Nat} (ET : ElemT P t e (.agg #[.slice none 0 0, .bool false, .slice none 0 0, .slice none 0 0]) 4 bytes) {x y : Operand} (ho : o.op = .buildSlice t 2 #[(0, x), (1, y)])
    {a0 : Option Addr} {n0 k0 : Nat} {s0 : Bool} {a1 : Option Addr} {n1 k1 : Nat} {a2 : Option Addr} {n2 k2 : Nat} {b0 : Option Addr} {m0 j0 : Nat} {t0 : Bool} {b1 : Option Addr} {m1 j1 : Nat} {b2 : Option Addr} {m2 j2 : Nat}
    (hx : a.eval x = .agg #[.slice a0 n0 k0, .bool s0, .slice a1 n1 k1, .slice a2 n2 k2]) (hy : a.eval y = .agg #[.slice b0 m0 j0, .bool t0, .slice b1 m1 j1, .slice b2 m2 j2])
    (h : K (a.put o.dst (.slice (some ⟨w.heap.size, 0, none⟩) 2 2)) (w.alloc (.cells #[.slice a0 n0 k0, .bool s0, .slice a1 n1 k1, .slice a2 n2 k2, .slice b0 m0 j0, .bool t0, .slice b1 m1 j1, .slice b2 m2 j2] e))) : o.wp P a w K Q := by
  obtain ⟨i, hi, hz, hsz, -⟩ := ET.inf
  refine wp_buildSlice t e 2 _ ho _ i _ ET.und hi hz (by rw [hsz]; decide) (by rw [hsz]; decide) ?_ h
  rw [hsz]
  have hp : (#[(0, x), (1, y)].map fun (i, x) => (i, a.eval x)).toList = [(0, a.eval x), (1, a.eval y)] := by simp
  rw [hp, hx, hy]
  exact fill2 ..
theorem etY2 : ElemT Try.prog 71 69 (.agg #[.slice none 0 0, .bool false, .slice none 0 0, .slice none 0 0]) 4 80 := ElemT.mk' Try.underlying71 (by kernel_rfl) rfl (by decide)
/-- What stands where Canon has been. -/
def Cnx (la : TL) (ca : Rat) (w : World) (v : Value) : Prop := ∃ l, l.length ≤ 12 ∧ (∀ x, cf l x = cf la x) ∧ (∀ t ∈ l, Sz 120 t.2) ∧ RdX w v l ca
theorem in_rest {la lb : TL} {ca cb : Rat} {vs : List Int} (hv : ∀ x, x ∈ vs ↔ InVs x [(la, ca), (lb, cb)]) (h : ∀ x ∈ vs, cf la x = cf lb x) : ∀ x, cf la x = cf lb x := fun x => by
  by_cases hx : x ∈ vs
  · exact h x hx
  · have h1 : ¬ InV x la := fun h1 => hx ((hv x).2 ⟨(la, ca), by simp, h1⟩)
    have h2 : ¬ InV x lb := fun h2 => hx ((hv x).2 ⟨(lb, cb), by simp, h2⟩)
    rw [cf_none (fun t ht e => h1 ⟨t, ht, e⟩), cf_none (fun t ht e => h2 ⟨t, ht, e⟩)]
theorem sm_step {la lb : TL} {ca cb : Rat} {vs : List Int} {m : Nat} {sb b : Bool} (hm : m < vs.length) (h : sb = true ↔ ca = cb ∧ ∀ x ∈ vs.take m, cf la x = cf lb x) (hb : b = true ↔ sb = true ∧ cf la vs[m] = cf lb vs[m]) :
    b = true ↔ ca = cb ∧ ∀ x ∈ vs.take (m + 1), cf la x = cf lb x := by
  rw [hb, h, ← List.take_append_getElem hm]
  constructor
  · rintro ⟨⟨h1, h2⟩, h3⟩
    refine ⟨h1, fun x hx => ?_⟩
    rcases List.mem_append.1 hx with hx | hx
    · exact h2 x hx
    · rw [List.mem_singleton.1 hx]; exact h3
  · rintro ⟨h1, h2⟩
    exact ⟨⟨h1, fun x hx => h2 x (List.mem_append_left _ hx)⟩, h2 _ (List.mem_append_right _ List.mem_cons_self)⟩
theorem two_len {la lb : TL} {ca cb : Rat} (h1 : la.length ≤ 1000) (h2 : lb.length ≤ 1000) : ∀ p ∈ [(la, ca), (lb, cb)], p.1.length ≤ 1000 := fun z hz => by
  simp at hz
  exact hz.elim (fun h => by rw [h]; exact h1) (fun h => by rw [h]; exact h2)
set_option maxHeartbeats 100000000 in
set_option maxRecDepth 100000 in
set_option linter.unusedSimpArgs false in
theorem walk {w : World} {v0 v1 : Value} {l0 l1 : List (Int × NN)} {n0 n1 : NN} (hv0 : RdNE w v0 l0 n0) (hb0 : ∀ p ∈ l0, bN p.2 ≤ 1048576) (hn0 : bN n0 ≤ 1048576) (_hl0 : l0.length ≤ 1048576)
    (hv1 : RdNE w v1 l1 n1) (hb1 : ∀ p ∈ l1, bN p.2 ≤ 1048576) (hn1 : bN n1 ≤ 1048576) (_hl1 : l1.length ≤ 1048576) :
    Calls Try.prog 4 #[v0, v1] w (Gives w fun v' _ => v' = .bool true) := by
  refine via fun R hR => ?_
  unfold bN at hb0 hb1 hn0 hn1
  have ZA := Lib.hid (tL_sm hv0)
  have ZB := Lib.hid (tL_sm hv1)
  have HEA : Hid (∀ (w : World) (v : Value), RdNE w v l0 n0 → Calls Try.prog 31 #[v] w (Gives w fun v' w' => OwnX 0 w' v' (tL l0) (qN n0))) := fun w v h => expr8_sm h (fun t ht => by have := hb0 t ht; exact ⟨by omega, by omega⟩) ⟨by omega, by omega⟩
  have HEB : Hid (∀ (w : World) (v : Value), RdNE w v l1 n1 → Calls Try.prog 31 #[v] w (Gives w fun v' w' => OwnX 0 w' v' (tL l1) (qN n1))) := fun w v h => expr8_sm h (fun t ht => by have := hb1 t ht; exact ⟨by omega, by omega⟩) ⟨by omega, by omega⟩
  have HV0 := Lib.hid hv0
  have HV1 := Lib.hid hv1
  obtain ⟨sl0, t1, t2, rfl, hr0, -⟩ := hv0
  obtain ⟨aa, ka, rfl, -, -⟩ := hr0.shape
  obtain ⟨sl1, t4, t5, rfl, hr1, -⟩ := hv1
  obtain ⟨ab, kb, rfl, -, -⟩ := hr1.shape
  clear hr0 hr1 hb0 hb1 hn0 hn1
  obtain ⟨g0, hg0⟩ : ∃ g0, n0.1 = g0 := ⟨_, rfl⟩
  obtain ⟨g1, hg1⟩ : ∃ g1, n1.1 = g1 := ⟨_, rfl⟩
  obtain ⟨m0, hm0⟩ : ∃ m0, l0.length = m0 := ⟨_, rfl⟩
  obtain ⟨m1, hm1⟩ : ∃ m1, l1.length = m1 := ⟨_, rfl⟩
  rw [hg0, hm0] at HV0 ⊢
  rw [hg1, hm1] at HV1 ⊢
  clear hg0 hg1 hm0 hm1
  generalize tL l0 = la at *
  generalize tL l1 = lb at *
  generalize qN n0 = ca at *
  generalize qN n1 = cb at *
  have HSM : Hid (∀ (sb : Bool), (sb = true ↔ ca = cb ∧ ∀ x, cf la x = cf lb x) → ∀ w va vb, RdX w va la ca → RdX w vb lb cb → Calls Try.prog 37 #[va, vb] w (Gives w fun v' _ => v' = .bool sb)) := fun sb hs w va vb h1 h2 =>
    (lsame_any 8 8 h1 h2 ZA.out.2.1 ZB.out.2.1 ZA.out.2.2 ZB.out.2.2 (by have := ZA.out.1; have := ZB.out.1; omega) (by have := ZB.out.1; omega) (by decide)).mono fun _ _ ⟨v, e, b, t, o, ht⟩ => ⟨v, e, b, by
      have : t = sb := Bool.eq_iff_iff.2 (by rw [ht, hs]; exact And.comm)
      rw [o, this]⟩
  have HCN : Hid (∀ w v, RdX w v la ca → Calls Try.prog 38 #[v] w (Gives w fun v' w' => Cnx la ca w' v')) := fun w v h =>
    (canon_any 8 h ZA.out.2.1 (by have := ZA.out.1; omega) (by decide)).mono fun _ _ ⟨v, e, b, l', hc, hz, hl, o⟩ => ⟨v, e, b, l', Nat.le_trans hl ZA.out.1, hc.2, fun t ht => (hz t ht).le (by have := ZA.out.1; omega), OwnEx.rd o⟩
  have HSC : Hid (∀ w va vb, RdX w va la ca → Cnx la ca w vb → Calls Try.prog 37 #[va, vb] w (Gives w fun v' _ => v' = .bool true)) := fun w va vb h1 ⟨l', h3, h4, h5, h6⟩ =>
    (lsame_any 120 8 h1 h6 (fun t ht => (ZA.out.2.1 t ht).le (by decide)) h5 ZA.out.2.2 ZA.out.2.2 (by have := ZA.out.1; omega) (by omega) (by decide)).mono fun _ _ ⟨v, e, b, t, o, ht⟩ => ⟨v, e, b, by rw [o, ht.2 ⟨fun x => (h4 x).symm, rfl⟩]⟩
  obtain ⟨w1, hw1, b1, c1, c2, -, -, -⟩ := bx2 w [.slice aa m0 ka, .bool g0, t1, t2] [.slice ab m1 kb, .bool g1, t4, t5] 60 60
  have C1 := Lib.hid c1
  have C2 := Lib.hid c2
  have HW := Lib.hid hw1
  have SZ1 : Hid (w.heap.size + 1 < w1.heap.size) := World.block_lt_of_cell? w1 _ c2.c4.1
  clear hw1 c1 c2
  go_enter Try.func4, Try.ntmps4
  go_upto_region 1 with (fail)
  rw [← HW.out]
  clear HW
  go_cut [5, 6] (fun s5 s6 wx => ∃ (B4 B5 : Nat) (x0 x1 x2 x3 y0 y1 y2 y3 : Value), s5 = .pointer (some ⟨B4, 0, none⟩) ∧ s6 = .pointer (some ⟨B5, 0, none⟩) ∧ Ext w1 wx ∧ Hid (Bx wx B4 [x0, x1, x2, x3]) ∧ Hid (Bx wx B5 [y0, y1, y2, y3]) ∧ Hid (OwnX 0 wx (.agg #[x0, x1, x2, x3]) la ca) ∧ Hid (OwnX 0 wx (.agg #[y0, y1, y2, y3]) lb cb))
  case first =>
    as_aux_lemma =>
      refine wp_region_noPanic ?_
      refine wp_region_held_drew (S := fun w' => (w'.cell? ⟨w.heap.size, 0, none⟩ = some (.slice aa m0 ka) ∧ w'.cell? ⟨w.heap.size, 1, none⟩ = some (.bool g0) ∧ w'.cell? ⟨w.heap.size, 2, none⟩ = some (t1) ∧ w'.cell? ⟨w.heap.size, 3, none⟩ = some (t2)) ∧ (w'.cell? ⟨w.heap.size + 1, 0, none⟩ = some (.slice ab m1 kb) ∧ w'.cell? ⟨w.heap.size + 1, 1, none⟩ = some (.bool g1) ∧ w'.cell? ⟨w.heap.size + 1, 2, none⟩ = some (t4) ∧ w'.cell? ⟨w.heap.size + 1, 3, none⟩ = some (t5))) (by kernel_rfl) (⟨(C1.out.ext (drew_ext w1)).c4, (C2.out.ext (drew_ext w1)).c4⟩) (fun hHeld => ?_)
      refine wpAnyH_take (i := 0) (v := ?_) rfl (by kernel_rfl) (by kernel_rfl) (by kernel_rfl) (fun _ _ _ h => h) (Or.inl ⟨by rfl, fun w0 hSw => ?_⟩) hHeld ?_
      rotate_left
      · (try dsimp only at hSw)
        go_simp
        try with_reducible rfl
      simp only [Act.put, List.getElem_toArray, List.getElem_cons_succ, List.getElem_cons_zero, List.setIfInBounds_toArray, List.set_cons_zero, List.set_cons_succ]
      refine wpAnyH_take (i := 2) (v := ?_) rfl (by kernel_rfl) (by kernel_rfl) (by kernel_rfl) (fun _ _ _ h => h) (Or.inl ⟨by rfl, fun w0 hSw => ?_⟩) hHeld ?_
      rotate_left
      · (try dsimp only at hSw)
        go_simp
        try with_reducible rfl
      simp only [Act.put, List.getElem_toArray, List.getElem_cons_succ, List.getElem_cons_zero, List.setIfInBounds_toArray, List.set_cons_zero, List.set_cons_succ]
      refine anyH_cap fun O Q9 AA hO hQ hA => ?_
      obtain ⟨SS, hSS⟩ : ∃ SS : World → Prop, Hid (SS = fun w' => (w'.cell? ⟨w.heap.size, 0, none⟩ = some (.slice aa m0 ka) ∧ w'.cell? ⟨w.heap.size, 1, none⟩ = some (.bool g0) ∧ w'.cell? ⟨w.heap.size, 2, none⟩ = some (t1) ∧ w'.cell? ⟨w.heap.size, 3, none⟩ = some (t2)) ∧ (w'.cell? ⟨w.heap.size + 1, 0, none⟩ = some (.slice ab m1 kb) ∧ w'.cell? ⟨w.heap.size + 1, 1, none⟩ = some (.bool g1) ∧ w'.cell? ⟨w.heap.size + 1, 2, none⟩ = some (t4) ∧ w'.cell? ⟨w.heap.size + 1, 3, none⟩ = some (t5))) := ⟨_, rfl⟩
      have KP : Hid (∀ wv, Ext w1 wv → SS wv) := fun wv XE => by rw [hSS.out]; exact ⟨(C1.out.ext XE).c4, (C2.out.ext XE).c4⟩
      have L2_4_5 : ∀ (wv : World) (v1 v3 : Value) (B4 B5 : Nat), Hid (Ext w1 wv) → Hid (OwnX 0 wv v1 la ca) → Hid (OwnX 0 wv v3 lb cb) → Hid (Rt wv B4 4 63) → Hid (w1.heap.size ≤ B4) → Hid (Rt wv B5 4 63) → Hid (w1.heap.size ≤ B5) → Hid (B4 ≠ B5) → wpAnyH Try.prog .any O Q9 SS 2 #[true, true, true, true, true, true, false, false] ((((AA.put (some 11) v1).put (some 13) v3).put (some 5) (.pointer (some ⟨B4, 0, none⟩))).put (some 6) (.pointer (some ⟨B5, 0, none⟩))) wv := by
        intro wv v1 v3 B4 B5 hX p1 p3 r4 s4 r5 s5 ne4_5
        have hO1 := hO.out
        have hQ1 := hQ.out
        have hA1 := hA.out
        subst hO1
        subst hQ1
        subst hA1
        have XE := hX.out
        have hS1 := hSS.out
        subst hS1
        have hHeld : (fun w' => (w'.cell? ⟨w.heap.size, 0, none⟩ = some (.slice aa m0 ka) ∧ w'.cell? ⟨w.heap.size, 1, none⟩ = some (.bool g0) ∧ w'.cell? ⟨w.heap.size, 2, none⟩ = some (t1) ∧ w'.cell? ⟨w.heap.size, 3, none⟩ = some (t2)) ∧ (w'.cell? ⟨w.heap.size + 1, 0, none⟩ = some (.slice ab m1 kb) ∧ w'.cell? ⟨w.heap.size + 1, 1, none⟩ = some (.bool g1) ∧ w'.cell? ⟨w.heap.size + 1, 2, none⟩ = some (t4) ∧ w'.cell? ⟨w.heap.size + 1, 3, none⟩ = some (t5))) wv := ⟨(C1.out.ext XE).c4, (C2.out.ext XE).c4⟩
        try simp only [Act.put, List.getElem_toArray, List.getElem_cons_succ, List.getElem_cons_zero, List.setIfInBounds_toArray, List.set_cons_zero, List.set_cons_succ]
        have k0_4 : w.heap.size ≠ B4 := by have h1 := s4.out; have hz0 := SZ1.out; omega
        have k1_4 : w.heap.size + 1 ≠ B4 := by have h1 := s4.out; have hz0 := SZ1.out; omega
        have k0_5 : w.heap.size ≠ B5 := by have h1 := s5.out; have hz0 := SZ1.out; omega
        have k1_5 : w.heap.size + 1 ≠ B5 := by have h1 := s5.out; have hz0 := SZ1.out; omega
        have n4_5 := ne4_5.out
        have n5_4 := Ne.symm n4_5
        obtain ⟨f0, f1, f2, f3, f4, f5, f6, f7, f8, rfl, -, -, OA⟩ := p1.out.op
        obtain ⟨h0, h1, h2, h3, h4, h5, h6, h7, h8, rfl, -, -, OB⟩ := p3.out.op
        obtain ⟨_, _, _, _, i4_0, i4_1, i4_2, i4_3, f4_0, f4_1, f4_2, f4_3⟩ := r4.out.c4
        refine wpAnyH_ready (rs := [6]) (by kernel_rfl) (by simp) ?_
        refine AllReadyH.cons (o := _) rfl (fun K hK => ?_) AllReadyH.nil
        go_simp
        refine hK.out _ _ (⟨(((((C1.out.ext XE).set1 k0_4 _ _).set1 k0_4 _ _).set1 k0_4 _ _).set1 k0_4 _ _).c4, (((((C2.out.ext XE).set1 k1_4 _ _).set1 k1_4 _ _).set1 k1_4 _ _).set1 k1_4 _ _).c4⟩) (fun hHeld => ?_)
        clear hK K
        try simp only [Act.put, List.getElem_toArray, List.getElem_cons_succ, List.getElem_cons_zero, List.setIfInBounds_toArray, List.set_cons_zero, List.set_cons_succ]
        clear hHeld
        refine gen_world (P := wpAnyH _ _ _ _ _ _ _ _) _ (fun Wg6 hWg6 => ?_)
        have CG6_0 : Bx Wg6 (w.heap.size) [.slice aa m0 ka, .bool g0, t1, t2] := by rw [hWg6]; exact (((((C1.out.ext XE).set1 k0_4 _ _).set1 k0_4 _ _).set1 k0_4 _ _).set1 k0_4 _ _)
        have CG6_1 : Bx Wg6 (w.heap.size + 1) [.slice ab m1 kb, .bool g1, t4, t5] := by rw [hWg6]; exact (((((C2.out.ext XE).set1 k1_4 _ _).set1 k1_4 _ _).set1 k1_4 _ _).set1 k1_4 _ _)
        have RG6_5 : Rt Wg6 B5 4 63 := by rw [hWg6]; exact ((((r5.out.set1 n5_4 _ _).set1 n5_4 _ _).set1 n5_4 _ _).set1 n5_4 _ _)
        have hHeld : (fun w' => (w'.cell? ⟨w.heap.size, 0, none⟩ = some (.slice aa m0 ka) ∧ w'.cell? ⟨w.heap.size, 1, none⟩ = some (.bool g0) ∧ w'.cell? ⟨w.heap.size, 2, none⟩ = some (t1) ∧ w'.cell? ⟨w.heap.size, 3, none⟩ = some (t2)) ∧ (w'.cell? ⟨w.heap.size + 1, 0, none⟩ = some (.slice ab m1 kb) ∧ w'.cell? ⟨w.heap.size + 1, 1, none⟩ = some (.bool g1) ∧ w'.cell? ⟨w.heap.size + 1, 2, none⟩ = some (t4) ∧ w'.cell? ⟨w.heap.size + 1, 3, none⟩ = some (t5))) Wg6 := ⟨CG6_0.c4, CG6_1.c4⟩
        have HWg6 := Lib.hid hWg6
        clear hWg6
        clear i4_0 f4_0 i4_1 f4_1 i4_2 f4_2 i4_3 f4_3
        obtain ⟨_, _, _, _, i5_0, i5_1, i5_2, i5_3, f5_0, f5_1, f5_2, f5_3⟩ := RG6_5.c4
        refine wpAnyH_ready (rs := [7]) (by kernel_rfl) (by simp) ?_
        refine AllReadyH.cons (o := _) rfl (fun K hK => ?_) AllReadyH.nil
        go_simp
        refine hK.out _ _ (⟨((((CG6_0.set1 k0_5 _ _).set1 k0_5 _ _).set1 k0_5 _ _).set1 k0_5 _ _).c4, ((((CG6_1.set1 k1_5 _ _).set1 k1_5 _ _).set1 k1_5 _ _).set1 k1_5 _ _).c4⟩) (fun hHeld => ?_)
        clear hK K
        try simp only [Act.put, List.getElem_toArray, List.getElem_cons_succ, List.getElem_cons_zero, List.setIfInBounds_toArray, List.set_cons_zero, List.set_cons_succ]
        refine wpAnyH_done (by kernel_rfl) ?_ _
        refine NoPanic.normal ?_
        rw [HWg6.out]
        go_wp2_with fail
        go_meet
        obtain ⟨W, hW, hM1, hM2, hM3, hM4, hM5⟩ := meet44 r4.out r5.out ne4_5.out hX.out s4.out s5.out (by decide) (by decide) OA.out OB.out
        rw [← hW]
        exact ⟨B4, B5, _, _, _, _, _, _, _, _, rfl, rfl, hM1, hM2, hM3, hM4, hM5⟩
      have L1_4_5 : ∀ (wv : World) (v1 : Value) (B4 B5 : Nat), Hid (Ext w1 wv) → Hid (OwnX 0 wv v1 la ca) → Hid (Rt wv B4 4 63) → Hid (w1.heap.size ≤ B4) → Hid (Rt wv B5 4 63) → Hid (w1.heap.size ≤ B5) → Hid (B4 ≠ B5) → wpAnyH Try.prog .any O Q9 SS 3 #[true, true, true, false, true, true, false, false] (((AA.put (some 11) v1).put (some 5) (.pointer (some ⟨B4, 0, none⟩))).put (some 6) (.pointer (some ⟨B5, 0, none⟩))) wv := by
        intro wv v1 B4 B5 hX p1 r4 s4 r5 s5 ne4_5
        have hO1 := hO.out
        have hQ1 := hQ.out
        have hA1 := hA.out
        subst hO1
        subst hQ1
        subst hA1
        have XE := hX.out
        try simp only [Act.put, List.getElem_toArray, List.getElem_cons_succ, List.getElem_cons_zero, List.setIfInBounds_toArray, List.set_cons_zero, List.set_cons_succ]
        refine wpAnyH_ready (rs := [3]) (by kernel_rfl) (by simp) ?_
        refine AllReadyH.cons (o := _) rfl (fun K hK => ?_) AllReadyH.nil
        go_simp
        go_at_call 31
        refine (HEB.out _ _ (HV1.out.ext (Ext.trans b1 XE))).mono ?_
        rintro e wn ⟨vn, rfl, bn, on⟩
        go_wp2_with fail
        refine hK.out _ _ (KP.out _ (Ext.trans XE bn)) (fun _ => ?_)
        clear hK K
        try simp only [Act.put, List.getElem_toArray, List.getElem_cons_succ, List.getElem_cons_zero, List.setIfInBounds_toArray, List.set_cons_zero, List.set_cons_succ]
        exact wpAnyH_at (L2_4_5 wn v1 vn B4 B5 (Ext.trans XE bn) (p1.out.ext bn) (on) (r4.out.ext bn) s4 (r5.out.ext bn) s5 ne4_5) (by kernel_rfl) (by kernel_rfl) (by kernel_rfl)
      have L2_5 : ∀ (wv : World) (v1 v3 : Value) (B5 : Nat), Hid (Ext w1 wv) → Hid (OwnX 0 wv v1 la ca) → Hid (OwnX 0 wv v3 lb cb) → Hid (Rt wv B5 4 63) → Hid (w1.heap.size ≤ B5) → wpAnyH Try.prog .any O Q9 SS 3 #[true, true, true, true, false, true, false, false] (((AA.put (some 11) v1).put (some 13) v3).put (some 6) (.pointer (some ⟨B5, 0, none⟩))) wv := by
        intro wv v1 v3 B5 hX p1 p3 r5 s5
        have hO1 := hO.out
        have hQ1 := hQ.out
        have hA1 := hA.out
        subst hO1
        subst hQ1
        subst hA1
        have XE := hX.out
        try simp only [Act.put, List.getElem_toArray, List.getElem_cons_succ, List.getElem_cons_zero, List.setIfInBounds_toArray, List.set_cons_zero, List.set_cons_succ]
        refine wpAnyH_ready (rs := [4]) (by kernel_rfl) (by simp) ?_
        refine AllReadyH.cons (o := _) rfl (fun K hK => ?_) AllReadyH.nil
        go_simp
        refine hK.out _ _ (KP.out _ (Ext.trans XE (Ext.alloc _ _))) (fun _ => ?_)
        clear hK K
        try simp only [Act.put, List.getElem_toArray, List.getElem_cons_succ, List.getElem_cons_zero, List.setIfInBounds_toArray, List.set_cons_zero, List.set_cons_succ]
        exact wpAnyH_at (L2_4_5 _ v1 v3 wv.heap.size B5 (Ext.trans XE (Ext.alloc wv (.cells [.slice none 0 0, .bool false, .slice none 0 0, .slice none 0 0].toArray 63))) (p1.out.ext (Ext.alloc wv (.cells [.slice none 0 0, .bool false, .slice none 0 0, .slice none 0 0].toArray 63))) (p3.out.ext (Ext.alloc wv (.cells [.slice none 0 0, .bool false, .slice none 0 0, .slice none 0 0].toArray 63))) (Rt.new wv [.slice none 0 0, .bool false, .slice none 0 0, .slice none 0 0] 63) (Below.size XE) (r5.out.ext (Ext.alloc wv (.cells [.slice none 0 0, .bool false, .slice none 0 0, .slice none 0 0].toArray 63))) s5 (Nat.ne_of_gt r5.out.lt)) (by kernel_rfl) (by kernel_rfl) (by kernel_rfl)
      have L2_4 : ∀ (wv : World) (v1 v3 : Value) (B4 : Nat), Hid (Ext w1 wv) → Hid (OwnX 0 wv v1 la ca) → Hid (OwnX 0 wv v3 lb cb) → Hid (Rt wv B4 4 63) → Hid (w1.heap.size ≤ B4) → wpAnyH Try.prog .any O Q9 SS 3 #[true, true, true, true, true, false, false, false] (((AA.put (some 11) v1).put (some 13) v3).put (some 5) (.pointer (some ⟨B4, 0, none⟩))) wv := by
        intro wv v1 v3 B4 hX p1 p3 r4 s4
        have hO1 := hO.out
        have hQ1 := hQ.out
        have hA1 := hA.out
        subst hO1
        subst hQ1
        subst hA1
        have XE := hX.out
        try simp only [Act.put, List.getElem_toArray, List.getElem_cons_succ, List.getElem_cons_zero, List.setIfInBounds_toArray, List.set_cons_zero, List.set_cons_succ]
        refine wpAnyH_ready (rs := [5]) (by kernel_rfl) (by simp) ?_
        refine AllReadyH.cons (o := _) rfl (fun K hK => ?_) AllReadyH.nil
        go_simp
        refine hK.out _ _ (KP.out _ (Ext.trans XE (Ext.alloc _ _))) (fun _ => ?_)
        clear hK K
        try simp only [Act.put, List.getElem_toArray, List.getElem_cons_succ, List.getElem_cons_zero, List.setIfInBounds_toArray, List.set_cons_zero, List.set_cons_succ]
        exact wpAnyH_at (L2_4_5 _ v1 v3 B4 wv.heap.size (Ext.trans XE (Ext.alloc wv (.cells [.slice none 0 0, .bool false, .slice none 0 0, .slice none 0 0].toArray 63))) (p1.out.ext (Ext.alloc wv (.cells [.slice none 0 0, .bool false, .slice none 0 0, .slice none 0 0].toArray 63))) (p3.out.ext (Ext.alloc wv (.cells [.slice none 0 0, .bool false, .slice none 0 0, .slice none 0 0].toArray 63))) (r4.out.ext (Ext.alloc wv (.cells [.slice none 0 0, .bool false, .slice none 0 0, .slice none 0 0].toArray 63))) s4 (Rt.new wv [.slice none 0 0, .bool false, .slice none 0 0, .slice none 0 0] 63) (Below.size XE) (Nat.ne_of_lt r4.out.lt)) (by kernel_rfl) (by kernel_rfl) (by kernel_rfl)
      have L0_4_5 : ∀ (wv : World) (B4 B5 : Nat), Hid (Ext w1 wv) → Hid (Rt wv B4 4 63) → Hid (w1.heap.size ≤ B4) → Hid (Rt wv B5 4 63) → Hid (w1.heap.size ≤ B5) → Hid (B4 ≠ B5) → wpAnyH Try.prog .any O Q9 SS 4 #[true, false, true, false, true, true, false, false] ((AA.put (some 5) (.pointer (some ⟨B4, 0, none⟩))).put (some 6) (.pointer (some ⟨B5, 0, none⟩))) wv := by
        intro wv B4 B5 hX r4 s4 r5 s5 ne4_5
        have hO1 := hO.out
        have hQ1 := hQ.out
        have hA1 := hA.out
        subst hO1
        subst hQ1
        subst hA1
        have XE := hX.out
        try simp only [Act.put, List.getElem_toArray, List.getElem_cons_succ, List.getElem_cons_zero, List.setIfInBounds_toArray, List.set_cons_zero, List.set_cons_succ]
        refine wpAnyH_ready (rs := [1]) (by kernel_rfl) (by simp) ?_
        refine AllReadyH.cons (o := _) rfl (fun K hK => ?_) AllReadyH.nil
        go_simp
        go_at_call 31
        refine (HEA.out _ _ (HV0.out.ext (Ext.trans b1 XE))).mono ?_
        rintro e wn ⟨vn, rfl, bn, on⟩
        go_wp2_with fail
        refine hK.out _ _ (KP.out _ (Ext.trans XE bn)) (fun _ => ?_)
        clear hK K
        try simp only [Act.put, List.getElem_toArray, List.getElem_cons_succ, List.getElem_cons_zero, List.setIfInBounds_toArray, List.set_cons_zero, List.set_cons_succ]
        exact wpAnyH_at (L1_4_5 wn vn B4 B5 (Ext.trans XE bn) (on) (r4.out.ext bn) s4 (r5.out.ext bn) s5 ne4_5) (by kernel_rfl) (by kernel_rfl) (by kernel_rfl)
      have L1_5 : ∀ (wv : World) (v1 : Value) (B5 : Nat), Hid (Ext w1 wv) → Hid (OwnX 0 wv v1 la ca) → Hid (Rt wv B5 4 63) → Hid (w1.heap.size ≤ B5) → wpAnyH Try.prog .any O Q9 SS 4 #[true, true, true, false, false, true, false, false] ((AA.put (some 11) v1).put (some 6) (.pointer (some ⟨B5, 0, none⟩))) wv := by
        intro wv v1 B5 hX p1 r5 s5
        have hO1 := hO.out
        have hQ1 := hQ.out
        have hA1 := hA.out
        subst hO1
        subst hQ1
        subst hA1
        have XE := hX.out
        try simp only [Act.put, List.getElem_toArray, List.getElem_cons_succ, List.getElem_cons_zero, List.setIfInBounds_toArray, List.set_cons_zero, List.set_cons_succ]
        refine wpAnyH_ready (rs := [3, 4]) (by kernel_rfl) (by simp) ?_
        refine AllReadyH.cons (o := _) rfl (fun K hK => ?_) (AllReadyH.cons (o := _) rfl (fun K hK => ?_) AllReadyH.nil)
        · skip
          go_simp
          go_at_call 31
          refine (HEB.out _ _ (HV1.out.ext (Ext.trans b1 XE))).mono ?_
          rintro e wn ⟨vn, rfl, bn, on⟩
          go_wp2_with fail
          refine hK.out _ _ (KP.out _ (Ext.trans XE bn)) (fun _ => ?_)
          clear hK K
          try simp only [Act.put, List.getElem_toArray, List.getElem_cons_succ, List.getElem_cons_zero, List.setIfInBounds_toArray, List.set_cons_zero, List.set_cons_succ]
          exact wpAnyH_at (L2_5 wn v1 vn B5 (Ext.trans XE bn) (p1.out.ext bn) (on) (r5.out.ext bn) s5) (by kernel_rfl) (by kernel_rfl) (by kernel_rfl)
        · skip
          go_simp
          refine hK.out _ _ (KP.out _ (Ext.trans XE (Ext.alloc _ _))) (fun _ => ?_)
          clear hK K
          try simp only [Act.put, List.getElem_toArray, List.getElem_cons_succ, List.getElem_cons_zero, List.setIfInBounds_toArray, List.set_cons_zero, List.set_cons_succ]
          exact wpAnyH_at (L1_4_5 _ v1 wv.heap.size B5 (Ext.trans XE (Ext.alloc wv (.cells [.slice none 0 0, .bool false, .slice none 0 0, .slice none 0 0].toArray 63))) (p1.out.ext (Ext.alloc wv (.cells [.slice none 0 0, .bool false, .slice none 0 0, .slice none 0 0].toArray 63))) (Rt.new wv [.slice none 0 0, .bool false, .slice none 0 0, .slice none 0 0] 63) (Below.size XE) (r5.out.ext (Ext.alloc wv (.cells [.slice none 0 0, .bool false, .slice none 0 0, .slice none 0 0].toArray 63))) s5 (Nat.ne_of_gt r5.out.lt)) (by kernel_rfl) (by kernel_rfl) (by kernel_rfl)
      have L1_4 : ∀ (wv : World) (v1 : Value) (B4 : Nat), Hid (Ext w1 wv) → Hid (OwnX 0 wv v1 la ca) → Hid (Rt wv B4 4 63) → Hid (w1.heap.size ≤ B4) → wpAnyH Try.prog .any O Q9 SS 4 #[true, true, true, false, true, false, false, false] ((AA.put (some 11) v1).put (some 5) (.pointer (some ⟨B4, 0, none⟩))) wv := by
        intro wv v1 B4 hX p1 r4 s4
        have hO1 := hO.out
        have hQ1 := hQ.out
        have hA1 := hA.out
        subst hO1
        subst hQ1
        subst hA1
        have XE := hX.out
        try simp only [Act.put, List.getElem_toArray, List.getElem_cons_succ, List.getElem_cons_zero, List.setIfInBounds_toArray, List.set_cons_zero, List.set_cons_succ]
        refine wpAnyH_ready (rs := [3, 5]) (by kernel_rfl) (by simp) ?_
        refine AllReadyH.cons (o := _) rfl (fun K hK => ?_) (AllReadyH.cons (o := _) rfl (fun K hK => ?_) AllReadyH.nil)
        · skip
          go_simp
          go_at_call 31
          refine (HEB.out _ _ (HV1.out.ext (Ext.trans b1 XE))).mono ?_
          rintro e wn ⟨vn, rfl, bn, on⟩
          go_wp2_with fail
          refine hK.out _ _ (KP.out _ (Ext.trans XE bn)) (fun _ => ?_)
          clear hK K
          try simp only [Act.put, List.getElem_toArray, List.getElem_cons_succ, List.getElem_cons_zero, List.setIfInBounds_toArray, List.set_cons_zero, List.set_cons_succ]
          exact wpAnyH_at (L2_4 wn v1 vn B4 (Ext.trans XE bn) (p1.out.ext bn) (on) (r4.out.ext bn) s4) (by kernel_rfl) (by kernel_rfl) (by kernel_rfl)
        · skip
          go_simp
          refine hK.out _ _ (KP.out _ (Ext.trans XE (Ext.alloc _ _))) (fun _ => ?_)
          clear hK K
          try simp only [Act.put, List.getElem_toArray, List.getElem_cons_succ, List.getElem_cons_zero, List.setIfInBounds_toArray, List.set_cons_zero, List.set_cons_succ]
          exact wpAnyH_at (L1_4_5 _ v1 B4 wv.heap.size (Ext.trans XE (Ext.alloc wv (.cells [.slice none 0 0, .bool false, .slice none 0 0, .slice none 0 0].toArray 63))) (p1.out.ext (Ext.alloc wv (.cells [.slice none 0 0, .bool false, .slice none 0 0, .slice none 0 0].toArray 63))) (r4.out.ext (Ext.alloc wv (.cells [.slice none 0 0, .bool false, .slice none 0 0, .slice none 0 0].toArray 63))) s4 (Rt.new wv [.slice none 0 0, .bool false, .slice none 0 0, .slice none 0 0] 63) (Below.size XE) (Nat.ne_of_lt r4.out.lt)) (by kernel_rfl) (by kernel_rfl) (by kernel_rfl)
      have L2_ : ∀ (wv : World) (v1 v3 : Value), Hid (Ext w1 wv) → Hid (OwnX 0 wv v1 la ca) → Hid (OwnX 0 wv v3 lb cb) → wpAnyH Try.prog .any O Q9 SS 4 #[true, true, true, true, false, false, false, false] ((AA.put (some 11) v1).put (some 13) v3) wv := by
        intro wv v1 v3 hX p1 p3
        have hO1 := hO.out
        have hQ1 := hQ.out
        have hA1 := hA.out
        subst hO1
        subst hQ1
        subst hA1
        have XE := hX.out
        try simp only [Act.put, List.getElem_toArray, List.getElem_cons_succ, List.getElem_cons_zero, List.setIfInBounds_toArray, List.set_cons_zero, List.set_cons_succ]
        refine wpAnyH_ready (rs := [4, 5]) (by kernel_rfl) (by simp) ?_
        refine AllReadyH.cons (o := _) rfl (fun K hK => ?_) (AllReadyH.cons (o := _) rfl (fun K hK => ?_) AllReadyH.nil)
        · skip
          go_simp
          refine hK.out _ _ (KP.out _ (Ext.trans XE (Ext.alloc _ _))) (fun _ => ?_)
          clear hK K
          try simp only [Act.put, List.getElem_toArray, List.getElem_cons_succ, List.getElem_cons_zero, List.setIfInBounds_toArray, List.set_cons_zero, List.set_cons_succ]
          exact wpAnyH_at (L2_4 _ v1 v3 wv.heap.size (Ext.trans XE (Ext.alloc wv (.cells [.slice none 0 0, .bool false, .slice none 0 0, .slice none 0 0].toArray 63))) (p1.out.ext (Ext.alloc wv (.cells [.slice none 0 0, .bool false, .slice none 0 0, .slice none 0 0].toArray 63))) (p3.out.ext (Ext.alloc wv (.cells [.slice none 0 0, .bool false, .slice none 0 0, .slice none 0 0].toArray 63))) (Rt.new wv [.slice none 0 0, .bool false, .slice none 0 0, .slice none 0 0] 63) (Below.size XE)) (by kernel_rfl) (by kernel_rfl) (by kernel_rfl)
        · skip
          go_simp
          refine hK.out _ _ (KP.out _ (Ext.trans XE (Ext.alloc _ _))) (fun _ => ?_)
          clear hK K
          try simp only [Act.put, List.getElem_toArray, List.getElem_cons_succ, List.getElem_cons_zero, List.setIfInBounds_toArray, List.set_cons_zero, List.set_cons_succ]
          exact wpAnyH_at (L2_5 _ v1 v3 wv.heap.size (Ext.trans XE (Ext.alloc wv (.cells [.slice none 0 0, .bool false, .slice none 0 0, .slice none 0 0].toArray 63))) (p1.out.ext (Ext.alloc wv (.cells [.slice none 0 0, .bool false, .slice none 0 0, .slice none 0 0].toArray 63))) (p3.out.ext (Ext.alloc wv (.cells [.slice none 0 0, .bool false, .slice none 0 0, .slice none 0 0].toArray 63))) (Rt.new wv [.slice none 0 0, .bool false, .slice none 0 0, .slice none 0 0] 63) (Below.size XE)) (by kernel_rfl) (by kernel_rfl) (by kernel_rfl)
      have L0_5 : ∀ (wv : World) (B5 : Nat), Hid (Ext w1 wv) → Hid (Rt wv B5 4 63) → Hid (w1.heap.size ≤ B5) → wpAnyH Try.prog .any O Q9 SS 5 #[true, false, true, false, false, true, false, false] (AA.put (some 6) (.pointer (some ⟨B5, 0, none⟩))) wv := by
        intro wv B5 hX r5 s5
        have hO1 := hO.out
        have hQ1 := hQ.out
        have hA1 := hA.out
        subst hO1
        subst hQ1
        subst hA1
        have XE := hX.out
        try simp only [Act.put, List.getElem_toArray, List.getElem_cons_succ, List.getElem_cons_zero, List.setIfInBounds_toArray, List.set_cons_zero, List.set_cons_succ]
        refine wpAnyH_ready (rs := [1, 4]) (by kernel_rfl) (by simp) ?_
        refine AllReadyH.cons (o := _) rfl (fun K hK => ?_) (AllReadyH.cons (o := _) rfl (fun K hK => ?_) AllReadyH.nil)
        · skip
          go_simp
          go_at_call 31
          refine (HEA.out _ _ (HV0.out.ext (Ext.trans b1 XE))).mono ?_
          rintro e wn ⟨vn, rfl, bn, on⟩
          go_wp2_with fail
          refine hK.out _ _ (KP.out _ (Ext.trans XE bn)) (fun _ => ?_)
          clear hK K
          try simp only [Act.put, List.getElem_toArray, List.getElem_cons_succ, List.getElem_cons_zero, List.setIfInBounds_toArray, List.set_cons_zero, List.set_cons_succ]
          exact wpAnyH_at (L1_5 wn vn B5 (Ext.trans XE bn) (on) (r5.out.ext bn) s5) (by kernel_rfl) (by kernel_rfl) (by kernel_rfl)
        · skip
          go_simp
          refine hK.out _ _ (KP.out _ (Ext.trans XE (Ext.alloc _ _))) (fun _ => ?_)
          clear hK K
          try simp only [Act.put, List.getElem_toArray, List.getElem_cons_succ, List.getElem_cons_zero, List.setIfInBounds_toArray, List.set_cons_zero, List.set_cons_succ]
          exact wpAnyH_at (L0_4_5 _ wv.heap.size B5 (Ext.trans XE (Ext.alloc wv (.cells [.slice none 0 0, .bool false, .slice none 0 0, .slice none 0 0].toArray 63))) (Rt.new wv [.slice none 0 0, .bool false, .slice none 0 0, .slice none 0 0] 63) (Below.size XE) (r5.out.ext (Ext.alloc wv (.cells [.slice none 0 0, .bool false, .slice none 0 0, .slice none 0 0].toArray 63))) s5 (Nat.ne_of_gt r5.out.lt)) (by kernel_rfl) (by kernel_rfl) (by kernel_rfl)
      have L0_4 : ∀ (wv : World) (B4 : Nat), Hid (Ext w1 wv) → Hid (Rt wv B4 4 63) → Hid (w1.heap.size ≤ B4) → wpAnyH Try.prog .any O Q9 SS 5 #[true, false, true, false, true, false, false, false] (AA.put (some 5) (.pointer (some ⟨B4, 0, none⟩))) wv := by
        intro wv B4 hX r4 s4
        have hO1 := hO.out
        have hQ1 := hQ.out
        have hA1 := hA.out
        subst hO1
        subst hQ1
        subst hA1
        have XE := hX.out
        try simp only [Act.put, List.getElem_toArray, List.getElem_cons_succ, List.getElem_cons_zero, List.setIfInBounds_toArray, List.set_cons_zero, List.set_cons_succ]
        refine wpAnyH_ready (rs := [1, 5]) (by kernel_rfl) (by simp) ?_
        refine AllReadyH.cons (o := _) rfl (fun K hK => ?_) (AllReadyH.cons (o := _) rfl (fun K hK => ?_) AllReadyH.nil)
        · skip
          go_simp
          go_at_call 31
          refine (HEA.out _ _ (HV0.out.ext (Ext.trans b1 XE))).mono ?_
          rintro e wn ⟨vn, rfl, bn, on⟩
          go_wp2_with fail
          refine hK.out _ _ (KP.out _ (Ext.trans XE bn)) (fun _ => ?_)
          clear hK K
          try simp only [Act.put, List.getElem_toArray, List.getElem_cons_succ, List.getElem_cons_zero, List.setIfInBounds_toArray, List.set_cons_zero, List.set_cons_succ]
          exact wpAnyH_at (L1_4 wn vn B4 (Ext.trans XE bn) (on) (r4.out.ext bn) s4) (by kernel_rfl) (by kernel_rfl) (by kernel_rfl)
        · skip
          go_simp
          refine hK.out _ _ (KP.out _ (Ext.trans XE (Ext.alloc _ _))) (fun _ => ?_)
          clear hK K
          try simp only [Act.put, List.getElem_toArray, List.getElem_cons_succ, List.getElem_cons_zero, List.setIfInBounds_toArray, List.set_cons_zero, List.set_cons_succ]
          exact wpAnyH_at (L0_4_5 _ B4 wv.heap.size (Ext.trans XE (Ext.alloc wv (.cells [.slice none 0 0, .bool false, .slice none 0 0, .slice none 0 0].toArray 63))) (r4.out.ext (Ext.alloc wv (.cells [.slice none 0 0, .bool false, .slice none 0 0, .slice none 0 0].toArray 63))) s4 (Rt.new wv [.slice none 0 0, .bool false, .slice none 0 0, .slice none 0 0] 63) (Below.size XE) (Nat.ne_of_lt r4.out.lt)) (by kernel_rfl) (by kernel_rfl) (by kernel_rfl)
      have L1_ : ∀ (wv : World) (v1 : Value), Hid (Ext w1 wv) → Hid (OwnX 0 wv v1 la ca) → wpAnyH Try.prog .any O Q9 SS 5 #[true, true, true, false, false, false, false, false] (AA.put (some 11) v1) wv := by
        intro wv v1 hX p1
        have hO1 := hO.out
        have hQ1 := hQ.out
        have hA1 := hA.out
        subst hO1
        subst hQ1
        subst hA1
        have XE := hX.out
        try simp only [Act.put, List.getElem_toArray, List.getElem_cons_succ, List.getElem_cons_zero, List.setIfInBounds_toArray, List.set_cons_zero, List.set_cons_succ]
        refine wpAnyH_ready (rs := [3, 4, 5]) (by kernel_rfl) (by simp) ?_
        refine AllReadyH.cons (o := _) rfl (fun K hK => ?_) (AllReadyH.cons (o := _) rfl (fun K hK => ?_) (AllReadyH.cons (o := _) rfl (fun K hK => ?_) AllReadyH.nil))
        · skip
          go_simp
          go_at_call 31
          refine (HEB.out _ _ (HV1.out.ext (Ext.trans b1 XE))).mono ?_
          rintro e wn ⟨vn, rfl, bn, on⟩
          go_wp2_with fail
          refine hK.out _ _ (KP.out _ (Ext.trans XE bn)) (fun _ => ?_)
          clear hK K
          try simp only [Act.put, List.getElem_toArray, List.getElem_cons_succ, List.getElem_cons_zero, List.setIfInBounds_toArray, List.set_cons_zero, List.set_cons_succ]
          exact wpAnyH_at (L2_ wn v1 vn (Ext.trans XE bn) (p1.out.ext bn) (on)) (by kernel_rfl) (by kernel_rfl) (by kernel_rfl)
        · skip
          go_simp
          refine hK.out _ _ (KP.out _ (Ext.trans XE (Ext.alloc _ _))) (fun _ => ?_)
          clear hK K
          try simp only [Act.put, List.getElem_toArray, List.getElem_cons_succ, List.getElem_cons_zero, List.setIfInBounds_toArray, List.set_cons_zero, List.set_cons_succ]
          exact wpAnyH_at (L1_4 _ v1 wv.heap.size (Ext.trans XE (Ext.alloc wv (.cells [.slice none 0 0, .bool false, .slice none 0 0, .slice none 0 0].toArray 63))) (p1.out.ext (Ext.alloc wv (.cells [.slice none 0 0, .bool false, .slice none 0 0, .slice none 0 0].toArray 63))) (Rt.new wv [.slice none 0 0, .bool false, .slice none 0 0, .slice none 0 0] 63) (Below.size XE)) (by kernel_rfl) (by kernel_rfl) (by kernel_rfl)
        · skip
          go_simp
          refine hK.out _ _ (KP.out _ (Ext.trans XE (Ext.alloc _ _))) (fun _ => ?_)
          clear hK K
          try simp only [Act.put, List.getElem_toArray, List.getElem_cons_succ, List.getElem_cons_zero, List.setIfInBounds_toArray, List.set_cons_zero, List.set_cons_succ]
          exact wpAnyH_at (L1_5 _ v1 wv.heap.size (Ext.trans XE (Ext.alloc wv (.cells [.slice none 0 0, .bool false, .slice none 0 0, .slice none 0 0].toArray 63))) (p1.out.ext (Ext.alloc wv (.cells [.slice none 0 0, .bool false, .slice none 0 0, .slice none 0 0].toArray 63))) (Rt.new wv [.slice none 0 0, .bool false, .slice none 0 0, .slice none 0 0] 63) (Below.size XE)) (by kernel_rfl) (by kernel_rfl) (by kernel_rfl)
      have L0_ : ∀ (wv : World), Hid (Ext w1 wv) → wpAnyH Try.prog .any O Q9 SS 6 #[true, false, true, false, false, false, false, false] AA wv := by
        intro wv hX
        have hO1 := hO.out
        have hQ1 := hQ.out
        have hA1 := hA.out
        subst hO1
        subst hQ1
        subst hA1
        have XE := hX.out
        try simp only [Act.put, List.getElem_toArray, List.getElem_cons_succ, List.getElem_cons_zero, List.setIfInBounds_toArray, List.set_cons_zero, List.set_cons_succ]
        refine wpAnyH_ready (rs := [1, 4, 5]) (by kernel_rfl) (by simp) ?_
        refine AllReadyH.cons (o := _) rfl (fun K hK => ?_) (AllReadyH.cons (o := _) rfl (fun K hK => ?_) (AllReadyH.cons (o := _) rfl (fun K hK => ?_) AllReadyH.nil))
        · skip
          go_simp
          go_at_call 31
          refine (HEA.out _ _ (HV0.out.ext (Ext.trans b1 XE))).mono ?_
          rintro e wn ⟨vn, rfl, bn, on⟩
          go_wp2_with fail
          refine hK.out _ _ (KP.out _ (Ext.trans XE bn)) (fun _ => ?_)
          clear hK K
          try simp only [Act.put, List.getElem_toArray, List.getElem_cons_succ, List.getElem_cons_zero, List.setIfInBounds_toArray, List.set_cons_zero, List.set_cons_succ]
          exact wpAnyH_at (L1_ wn vn (Ext.trans XE bn) (on)) (by kernel_rfl) (by kernel_rfl) (by kernel_rfl)
        · skip
          go_simp
          refine hK.out _ _ (KP.out _ (Ext.trans XE (Ext.alloc _ _))) (fun _ => ?_)
          clear hK K
          try simp only [Act.put, List.getElem_toArray, List.getElem_cons_succ, List.getElem_cons_zero, List.setIfInBounds_toArray, List.set_cons_zero, List.set_cons_succ]
          exact wpAnyH_at (L0_4 _ wv.heap.size (Ext.trans XE (Ext.alloc wv (.cells [.slice none 0 0, .bool false, .slice none 0 0, .slice none 0 0].toArray 63))) (Rt.new wv [.slice none 0 0, .bool false, .slice none 0 0, .slice none 0 0] 63) (Below.size XE)) (by kernel_rfl) (by kernel_rfl) (by kernel_rfl)
        · skip
          go_simp
          refine hK.out _ _ (KP.out _ (Ext.trans XE (Ext.alloc _ _))) (fun _ => ?_)
          clear hK K
          try simp only [Act.put, List.getElem_toArray, List.getElem_cons_succ, List.getElem_cons_zero, List.setIfInBounds_toArray, List.set_cons_zero, List.set_cons_succ]
          exact wpAnyH_at (L0_5 _ wv.heap.size (Ext.trans XE (Ext.alloc wv (.cells [.slice none 0 0, .bool false, .slice none 0 0, .slice none 0 0].toArray 63))) (Rt.new wv [.slice none 0 0, .bool false, .slice none 0 0, .slice none 0 0] 63) (Below.size XE)) (by kernel_rfl) (by kernel_rfl) (by kernel_rfl)
      have hO1 := hO.out
      have hQ1 := hQ.out
      have hA1 := hA.out
      subst hO1
      subst hQ1
      subst hA1
      have hS1 := hSS.out
      subst hS1
      exact wpAnyH_at (L0_ w1.drew (drew_ext w1)) (by kernel_rfl) (by kernel_rfl) (by kernel_rfl)
  case rest =>
    as_aux_lemma =>
      obtain ⟨B4, B5, x0, x1, x2, x3, y0, y1, y2, y3, rfl, rfl, b4, C6, C7, OA, OB⟩ := hcut
      generalize wc = w4 at *
      have b04 := Ext.trans b1 b4
      have D1 := Lib.hid (C1.out.ext b4)
      have D2 := Lib.hid (C2.out.ext b4)
      clear C1 C2
      have HTX : Hid (∀ w', Ext w4 w' → Calls Try.prog 33 #[.agg #[x0, x1, x2, x3]] w' (Gives w' fun v' w' => RdY w' v' la ca)) := fun w' x => told8_ok (OA.out.rd.ext x) ZA.out.okx
      have HTY : Hid (∀ w', Ext w4 w' → Calls Try.prog 33 #[.agg #[y0, y1, y2, y3]] w' (Gives w' fun v' w' => RdY w' v' lb cb)) := fun w' x => told8_ok (OB.out.rd.ext x) ZB.out.okx
      have HQA : Hid (OwnQ 163 0 w4 (.agg #[x1, x2, x3]) ca) := by
        obtain ⟨_, _, _, _, he, -, h⟩ := OA.out
        simp only [Value.agg.injEq, Array.mk.injEq, List.cons.injEq, and_true] at he
        obtain ⟨rfl, rfl, rfl, rfl⟩ := he
        exact h
      have HQB : Hid (OwnQ 163 0 w4 (.agg #[y1, y2, y3]) cb) := by
        obtain ⟨_, _, _, _, he, -, h⟩ := OB.out
        simp only [Value.agg.injEq, Array.mk.injEq, List.cons.injEq, and_true] at he
        obtain ⟨rfl, rfl, rfl, rfl⟩ := he
        exact h
      go_upto_region 2 with (fail)
      obtain ⟨k0, k1, k2, k3⟩ := C6.out.c4
      obtain ⟨j0, j1, j2, j3⟩ := C7.out.c4
      go_wp2_with fail
      refine (rcmp_any HQA.out.rd HQB.out.rd (ZA.out.2.2.le (by decide)) (ZB.out.2.2.le (by decide))).mono ?_
      rintro e w5 ⟨_, rfl, b5, rfl⟩
      clear k0 k1 k2 k3 j0 j1 j2 j3
      have HS0 : Hid (((ca - cb).num.sign == 0) = true ↔ ca = cb) := by
        show _ ↔ _
        rw [beq_iff_eq, num_sign_zero, sub_zero_iff]
      have b05 := Ext.trans b04 b5
      have E6 := Lib.hid (C6.out.ext b5)
      have E7 := Lib.hid (C7.out.ext b5)
      go_upto_region 3 with (fail)
      have b6 := drew_ext w5
      have XE := b6
      refine wp_region_noPanic ?_
      refine wp_region_held_drew (S := fun w' => (w'.cell? ⟨B4, 0, none⟩ = some (x0) ∧ w'.cell? ⟨B4, 1, none⟩ = some (x1) ∧ w'.cell? ⟨B4, 2, none⟩ = some (x2) ∧ w'.cell? ⟨B4, 3, none⟩ = some (x3)) ∧ (w'.cell? ⟨B5, 0, none⟩ = some (y0) ∧ w'.cell? ⟨B5, 1, none⟩ = some (y1) ∧ w'.cell? ⟨B5, 2, none⟩ = some (y2) ∧ w'.cell? ⟨B5, 3, none⟩ = some (y3))) (by kernel_rfl) (⟨(E6.out.ext XE).c4, (E7.out.ext XE).c4⟩) (fun hHeld => ?_)
      refine wpAnyH_take (i := 0) (v := ?_) rfl (by kernel_rfl) (by kernel_rfl) (by kernel_rfl) (fun _ _ _ h => h) (Or.inl ⟨by rfl, fun w0 hSw => ?_⟩) hHeld ?_
      rotate_left
      · (try dsimp only at hSw)
        go_simp
        try with_reducible rfl
      simp only [Act.put, List.getElem_toArray, List.getElem_cons_succ, List.getElem_cons_zero, List.setIfInBounds_toArray, List.set_cons_zero, List.set_cons_succ]
      refine wpAnyH_take (i := 2) (v := ?_) rfl (by kernel_rfl) (by kernel_rfl) (by kernel_rfl) (fun _ _ _ h => h) (Or.inl ⟨by rfl, fun w0 hSw => ?_⟩) hHeld ?_
      rotate_left
      · (try dsimp only at hSw)
        go_simp
        try with_reducible rfl
      simp only [Act.put, List.getElem_toArray, List.getElem_cons_succ, List.getElem_cons_zero, List.setIfInBounds_toArray, List.set_cons_zero, List.set_cons_succ]
      refine wpAnyH_take (i := 7) (v := ?_) rfl (by kernel_rfl) (by kernel_rfl) (by kernel_rfl) (fun _ _ _ h => h) (Or.inl ⟨by rfl, fun w0 hSw => ?_⟩) hHeld ?_
      rotate_left
      · (try dsimp only at hSw)
        go_simp
        try with_reducible rfl
      simp only [Act.put, List.getElem_toArray, List.getElem_cons_succ, List.getElem_cons_zero, List.setIfInBounds_toArray, List.set_cons_zero, List.set_cons_succ]
      refine wpAnyH_ready (rs := [1]) (by kernel_rfl) (by simp) ?_
      refine AllReadyH.cons (o := _) rfl (fun K hK => ?_) AllReadyH.nil
      go_simp
      go_at_call 33; refine (HTX.out _ (Ext.trans b5 XE)).mono ?_; rintro e w7 ⟨v7, rfl, b7, o7⟩; have O7 := Lib.hid o7; clear o7; (first | have XE := Ext.trans XE b7 | have XE := Ext.trans (Ext.trans XE (Ext.alloc _ _)) b7); obtain ⟨p0, p1, p2, p3, p4, p5, p6, p7, p8, rfl, -, -, -, -⟩ := RdEy.op O7.out
      go_wp2_with fail
      refine hK.out _ _ (⟨(E6.out.ext XE).c4, (E7.out.ext XE).c4⟩) (fun hHeld => ?_)
      clear hK K
      try simp only [Act.put, List.getElem_toArray, List.getElem_cons_succ, List.getElem_cons_zero, List.setIfInBounds_toArray, List.set_cons_zero, List.set_cons_succ]
      refine wpAnyH_ready (rs := [3]) (by kernel_rfl) (by simp) ?_
      refine AllReadyH.cons (o := _) rfl (fun K hK => ?_) AllReadyH.nil
      go_simp
      go_at_call 33; refine (HTY.out _ (Ext.trans b5 XE)).mono ?_; rintro e w8 ⟨v8, rfl, b8, o8⟩; have O8 := Lib.hid o8; clear o8; (first | have XE := Ext.trans XE b8 | have XE := Ext.trans (Ext.trans XE (Ext.alloc _ _)) b8); obtain ⟨r0, r1, r2, r3, r4, r5, r6, r7, r8, rfl, -, -, -, -⟩ := RdEy.op O8.out; have HT : Hid (RdRow 4 RdYp (w8.alloc (.cells #[.slice p0 la.length p1, .bool p2, .slice p3 p4 p5, .slice p6 p7 p8, .slice r0 lb.length r1, .bool r2, .slice r3 r4 r5, .slice r6 r7 r8] 69)) (.slice (some ⟨w8.heap.size, 0, none⟩) 2 2) [(la, ca), (lb, cb)]) := RdRow.lit w8 [[.slice p0 la.length p1, .bool p2, .slice p3 p4 p5, .slice p6 p7 p8], [.slice r0 lb.length r1, .bool r2, .slice r3 r4 r5, .slice r6 r7 r8]] 69 ⟨⟨rfl, RdEy.ext O7.out b8⟩, ⟨rfl, O8.out⟩, trivial⟩ RdYp.ext (by unfold maxLen; simp)
      go_wp2_with fail
      refine hK.out _ _ (⟨(E6.out.ext XE).c4, (E7.out.ext XE).c4⟩) (fun hHeld => ?_)
      clear hK K
      try simp only [Act.put, List.getElem_toArray, List.getElem_cons_succ, List.getElem_cons_zero, List.setIfInBounds_toArray, List.set_cons_zero, List.set_cons_succ]
      refine wpAnyH_ready (rs := [4]) (by kernel_rfl) (by simp) ?_
      refine AllReadyH.cons (o := _) rfl (fun K hK => ?_) AllReadyH.nil
      refine if_wantedL rfl ?_
      refine build2K etY2 (by rfl) (by rfl) (by rfl) ?_
      refine hK.out _ _ (⟨(E6.out.ext (Ext.trans XE (Ext.alloc _ _))).c4, (E7.out.ext (Ext.trans XE (Ext.alloc _ _))).c4⟩) (fun hHeld => ?_)
      clear hK K
      try simp only [Act.put, List.getElem_toArray, List.getElem_cons_succ, List.getElem_cons_zero, List.setIfInBounds_toArray, List.set_cons_zero, List.set_cons_succ]
      refine wpAnyH_ready (rs := [5]) (by kernel_rfl) (by simp) ?_
      refine AllReadyH.cons (o := _) rfl (fun K hK => ?_) AllReadyH.nil
      go_simp
      go_at_call 32; refine (r8vars_any HT.out (by decide : (2 : Nat) ≤ 1000) (two_len ZA.out.okx.1 ZB.out.okx.1)).mono ?_; rintro e w9 ⟨v9, rfl, b9, o9⟩; have O9 := Lib.hid o9; clear o9; (first | have XE := Ext.trans XE b9 | have XE := Ext.trans (Ext.trans XE (Ext.alloc _ _)) b9); obtain ⟨vs, hvs, hvl, hvx⟩ := O9.out; have HV := Lib.hid hvs; have HVX := Lib.hid hvx; obtain ⟨av, kv, rfl, -, -⟩ := hvs.shape; clear hvs hvx
      go_wp2_with fail
      refine hK.out _ _ (⟨(E6.out.ext XE).c4, (E7.out.ext XE).c4⟩) (fun hHeld => ?_)
      clear hK K
      try simp only [Act.put, List.getElem_toArray, List.getElem_cons_succ, List.getElem_cons_zero, List.setIfInBounds_toArray, List.set_cons_zero, List.set_cons_succ]
      refine wpAnyH_take (i := 6) (v := ?_) rfl (by kernel_rfl) (by kernel_rfl) (by kernel_rfl) (fun _ _ _ h => h) (Or.inl ⟨by rfl, fun w0 hSw => ?_⟩) hHeld ?_
      rotate_left
      · (try dsimp only at hSw)
        go_simp
        try with_reducible rfl
      simp only [Act.put, List.getElem_toArray, List.getElem_cons_succ, List.getElem_cons_zero, List.setIfInBounds_toArray, List.set_cons_zero, List.set_cons_succ]
      refine wpAnyH_done (by kernel_rfl) ?_ _
      refine NoPanic.normal ?_
      have b49 : Ext w5 w9 := XE
      clear O7 O8 O9
      go_wp2_with fail
      go_loopw [7, 27] (fun sm t wr => ∃ (m : Nat) (sb : Bool), t = .int .i64 m ∧ sm = .bool sb ∧ m ≤ vs.length ∧ Ext w9 wr ∧ Hid (sb = true ↔ ca = cb ∧ ∀ x ∈ vs.take m, cf la x = cf lb x)) (fun _ t _ => vs.length - (intOf t).toNat)
      case atStart => exact ⟨0, _, rfl, rfl, Nat.zero_le _, Ext.refl _, by
        show _ ↔ _
        rw [HS0.out]
        exact ⟨fun h => ⟨h, fun x hx => by rw [List.take_zero] at hx; cases hx⟩, fun h => h.1⟩⟩
      case round =>
        obtain ⟨m, sb, rfl, rfl, hm, hx, hS⟩ := hrel
        by_cases hml : m < vs.length
        · have hd : decide ((m : Int) < (vs.length : Int)) = true := decide_eq_true (by omega)
          obtain ⟨bV, oV, rfl⟩ := HV.out.some_atI hml
          have hM1 : IntKind.i64.wrap (m : Int) = (m : Int) := by rw [IntKind.wrap_i64]; omega
          have hM2 : (0 : Int) ≤ (m : Int) ∧ (m : Int) < (vs.length : Int) := ⟨by omega, by omega⟩
          have v0 := Ext.cell hx (HV.out.int m hml)
          have HST := Lib.hid (fun b hb => sm_step (b := b) hml hS.out hb)
          generalize vs[m] = x at *
          obtain ⟨w10, hw10⟩ : ∃ w0 : World, w0 = wr := ⟨_, rfl⟩
          subst hw10
          have b510 := Ext.trans b5 (Ext.trans b49 hx)
          have F6 := Lib.hid (C6.out.ext b510)
          have F7 := Lib.hid (C7.out.ext b510)
          go_upto_region 6 with (fail)
          clear v0
          cases sb with
          | true =>
            have b11 := drew_ext w10
            have XE := b11
            refine wp_region_noPanic ?_
            refine wp_region_held_drew (S := fun w' => (w'.cell? ⟨B4, 0, none⟩ = some (x0) ∧ w'.cell? ⟨B4, 1, none⟩ = some (x1) ∧ w'.cell? ⟨B4, 2, none⟩ = some (x2) ∧ w'.cell? ⟨B4, 3, none⟩ = some (x3)) ∧ (w'.cell? ⟨B5, 0, none⟩ = some (y0) ∧ w'.cell? ⟨B5, 1, none⟩ = some (y1) ∧ w'.cell? ⟨B5, 2, none⟩ = some (y2) ∧ w'.cell? ⟨B5, 3, none⟩ = some (y3))) (by kernel_rfl) (⟨(F6.out.ext XE).c4, (F7.out.ext XE).c4⟩) (fun hHeld => ?_)
            refine wpAnyH_take (i := 0) (v := ?_) rfl (by kernel_rfl) (by kernel_rfl) (by kernel_rfl) (fun _ _ _ h => h) (Or.inl ⟨by rfl, fun w0 hSw => ?_⟩) hHeld ?_
            rotate_left
            · (try dsimp only at hSw)
              go_simp
              try with_reducible rfl
            simp only [Act.put, List.getElem_toArray, List.getElem_cons_succ, List.getElem_cons_zero, List.setIfInBounds_toArray, List.set_cons_zero, List.set_cons_succ]
            refine wpAnyH_take (i := 1) (v := ?_) rfl (by kernel_rfl) (by kernel_rfl) (by kernel_rfl) (fun _ _ _ h => h) (Or.inl ⟨by rfl, fun w0 hSw => ?_⟩) hHeld ?_
            rotate_left
            · (try dsimp only at hSw)
              go_simp
              try with_reducible rfl
            simp only [Act.put, List.getElem_toArray, List.getElem_cons_succ, List.getElem_cons_zero, List.setIfInBounds_toArray, List.set_cons_zero, List.set_cons_succ]
            refine wpAnyH_take (i := 2) (v := ?_) rfl (by kernel_rfl) (by kernel_rfl) (by kernel_rfl) (fun _ _ _ h => h) (Or.inl ⟨by rfl, fun w0 hSw => ?_⟩) hHeld ?_
            rotate_left
            · (try dsimp only at hSw)
              go_simp
              try with_reducible rfl
            simp only [Act.put, List.getElem_toArray, List.getElem_cons_succ, List.getElem_cons_zero, List.setIfInBounds_toArray, List.set_cons_zero, List.set_cons_succ]
            refine wpAnyH_take (i := 4) (v := ?_) rfl (by kernel_rfl) (by kernel_rfl) (by kernel_rfl) (fun _ _ _ h => h) (Or.inl ⟨by rfl, fun w0 hSw => ?_⟩) hHeld ?_
            rotate_left
            · (try dsimp only at hSw)
              go_simp
              try with_reducible rfl
            simp only [Act.put, List.getElem_toArray, List.getElem_cons_succ, List.getElem_cons_zero, List.setIfInBounds_toArray, List.set_cons_zero, List.set_cons_succ]
            refine wpAnyH_take (i := 6) (v := ?_) rfl (by kernel_rfl) (by kernel_rfl) (by kernel_rfl) (fun _ _ _ h => h) (Or.inl ⟨by rfl, fun w0 hSw => ?_⟩) hHeld ?_
            rotate_left
            · (try dsimp only at hSw)
              go_simp
              try with_reducible rfl
            simp only [Act.put, List.getElem_toArray, List.getElem_cons_succ, List.getElem_cons_zero, List.setIfInBounds_toArray, List.set_cons_zero, List.set_cons_succ]
            refine wpAnyH_take (i := 8) (v := ?_) rfl (by kernel_rfl) (by kernel_rfl) (by kernel_rfl) (fun _ _ _ h => h) (Or.inl ⟨by rfl, fun w0 hSw => ?_⟩) hHeld ?_
            rotate_left
            · (try dsimp only at hSw)
              go_simp
              try with_reducible rfl
            simp only [Act.put, List.getElem_toArray, List.getElem_cons_succ, List.getElem_cons_zero, List.setIfInBounds_toArray, List.set_cons_zero, List.set_cons_succ]
            refine wpAnyH_ready (rs := [3]) (by kernel_rfl) (by simp) ?_
            refine AllReadyH.cons (o := _) rfl (fun K hK => ?_) AllReadyH.nil
            go_simp
            go_at_call 33; refine (HTX.out _ (Ext.trans b510 XE)).mono ?_; rintro e w12 ⟨v12, rfl, b12, o12⟩; have O12 := Lib.hid o12; clear o12; (first | have XE := Ext.trans XE b12 | have XE := Ext.trans (Ext.trans XE (Ext.alloc _ _)) b12)
            go_wp2_with fail
            refine hK.out _ _ (⟨(F6.out.ext XE).c4, (F7.out.ext XE).c4⟩) (fun hHeld => ?_)
            clear hK K
            try simp only [Act.put, List.getElem_toArray, List.getElem_cons_succ, List.getElem_cons_zero, List.setIfInBounds_toArray, List.set_cons_zero, List.set_cons_succ]
            refine wpAnyH_ready (rs := [5]) (by kernel_rfl) (by simp) ?_
            refine AllReadyH.cons (o := _) rfl (fun K hK => ?_) AllReadyH.nil
            go_simp
            go_at_call 35; refine (r8coef_any (x := x) 380 O12.out ZA.out.okx.2.1 (ZA.out.okx.2.2.1 x) ZA.out.okx.1 (by decide)).mono ?_; rintro e w13 ⟨v13, rfl, b13, o13⟩; have O13 := Lib.hid o13; clear o13; (first | have XE := Ext.trans XE b13 | have XE := Ext.trans (Ext.trans XE (Ext.alloc _ _)) b13)
            go_wp2_with fail
            refine hK.out _ _ (⟨(F6.out.ext XE).c4, (F7.out.ext XE).c4⟩) (fun hHeld => ?_)
            clear hK K
            try simp only [Act.put, List.getElem_toArray, List.getElem_cons_succ, List.getElem_cons_zero, List.setIfInBounds_toArray, List.set_cons_zero, List.set_cons_succ]
            refine wpAnyH_ready (rs := [7]) (by kernel_rfl) (by simp) ?_
            refine AllReadyH.cons (o := _) rfl (fun K hK => ?_) AllReadyH.nil
            go_simp
            go_at_call 33; refine (HTY.out _ (Ext.trans b510 XE)).mono ?_; rintro e w14 ⟨v14, rfl, b14, o14⟩; have O14 := Lib.hid o14; clear o14; (first | have XE := Ext.trans XE b14 | have XE := Ext.trans (Ext.trans XE (Ext.alloc _ _)) b14)
            go_wp2_with fail
            refine hK.out _ _ (⟨(F6.out.ext XE).c4, (F7.out.ext XE).c4⟩) (fun hHeld => ?_)
            clear hK K
            try simp only [Act.put, List.getElem_toArray, List.getElem_cons_succ, List.getElem_cons_zero, List.setIfInBounds_toArray, List.set_cons_zero, List.set_cons_succ]
            refine wpAnyH_ready (rs := [9]) (by kernel_rfl) (by simp) ?_
            refine AllReadyH.cons (o := _) rfl (fun K hK => ?_) AllReadyH.nil
            go_simp
            go_at_call 35; refine (r8coef_any (x := x) 380 O14.out ZB.out.okx.2.1 (ZB.out.okx.2.2.1 x) ZB.out.okx.1 (by decide)).mono ?_; rintro e w15 ⟨v15, rfl, b15, o15⟩; have O15 := Lib.hid o15; clear o15; (first | have XE := Ext.trans XE b15 | have XE := Ext.trans (Ext.trans XE (Ext.alloc _ _)) b15)
            go_wp2_with fail
            refine hK.out _ _ (⟨(F6.out.ext XE).c4, (F7.out.ext XE).c4⟩) (fun hHeld => ?_)
            clear hK K
            try simp only [Act.put, List.getElem_toArray, List.getElem_cons_succ, List.getElem_cons_zero, List.setIfInBounds_toArray, List.set_cons_zero, List.set_cons_succ]
            refine wpAnyH_ready (rs := [10]) (by kernel_rfl) (by simp) ?_
            refine AllReadyH.cons (o := _) rfl (fun K hK => ?_) AllReadyH.nil
            go_simp
            go_at_call 34; refine (r5cmp_any (O13.out.rd.ext (Ext.trans b14 b15)) O15.out.rd ((ZA.out.okx.cf x).fit (by decide)) ((ZB.out.okx.cf x).fit (by decide))).mono ?_; rintro e w16 ⟨_, rfl, b16, rfl⟩; (first | have XE := Ext.trans XE b16 | have XE := Ext.trans (Ext.trans XE (Ext.alloc _ _)) b16)
            go_wp2_with fail
            refine hK.out _ _ (⟨(F6.out.ext XE).c4, (F7.out.ext XE).c4⟩) (fun hHeld => ?_)
            clear hK K
            try simp only [Act.put, List.getElem_toArray, List.getElem_cons_succ, List.getElem_cons_zero, List.setIfInBounds_toArray, List.set_cons_zero, List.set_cons_succ]
            refine wpAnyH_take (i := 11) (v := ?_) rfl (by kernel_rfl) (by kernel_rfl) (by kernel_rfl) (fun _ _ _ h => h) (Or.inl ⟨by rfl, fun w0 hSw => ?_⟩) hHeld ?_
            rotate_left
            · (try dsimp only at hSw)
              go_simp
              try with_reducible rfl
            simp only [Act.put, List.getElem_toArray, List.getElem_cons_succ, List.getElem_cons_zero, List.setIfInBounds_toArray, List.set_cons_zero, List.set_cons_succ]
            refine wpAnyH_take (i := 12) (v := ?_) rfl (by kernel_rfl) (by kernel_rfl) (by kernel_rfl) (fun _ _ _ h => h) (Or.inl ⟨by rfl, fun w0 hSw => ?_⟩) hHeld ?_
            rotate_left
            · (try dsimp only at hSw)
              go_simp
              try with_reducible rfl
            simp only [Act.put, List.getElem_toArray, List.getElem_cons_succ, List.getElem_cons_zero, List.setIfInBounds_toArray, List.set_cons_zero, List.set_cons_succ]
            refine wpAnyH_take (i := 13) (v := ?_) rfl (by kernel_rfl) (by kernel_rfl) (by kernel_rfl) (fun _ _ _ h => h) (Or.inl ⟨by rfl, fun w0 hSw => ?_⟩) hHeld ?_
            rotate_left
            · (try dsimp only at hSw)
              go_simp
              try with_reducible rfl
            simp only [Act.put, List.getElem_toArray, List.getElem_cons_succ, List.getElem_cons_zero, List.setIfInBounds_toArray, List.set_cons_zero, List.set_cons_succ]
            refine wpAnyH_done (by kernel_rfl) ?_ _
            refine NoPanic.normal ?_
            have HB : Hid (((cf la x - cf lb x).num.sign == 0) = true ↔ cf la x = cf lb x) := by
              show _ ↔ _
              rw [beq_iff_eq, num_sign_zero, sub_zero_iff]
            generalize ((cf la x - cf lb x).num.sign == 0) = sb2 at *
            go_wp2_with fail
            go_roundw
            case rel => exact ⟨m + 1, sb2, by go_num, by first | rfl | trivial, by omega, Ext.trans hx XE, HST.out sb2 ⟨fun h => ⟨by first | rfl | trivial, HB.out.1 h⟩, fun h => HB.out.2 h.2⟩⟩
            case measure => simp [intOf] <;> omega
          | false =>
            have b11 := drew_ext w10
            have XE := b11
            refine wp_region_noPanic ?_
            refine wp_region_held_drew (S := fun w' => (w'.cell? ⟨B4, 0, none⟩ = some (x0) ∧ w'.cell? ⟨B4, 1, none⟩ = some (x1) ∧ w'.cell? ⟨B4, 2, none⟩ = some (x2) ∧ w'.cell? ⟨B4, 3, none⟩ = some (x3)) ∧ (w'.cell? ⟨B5, 0, none⟩ = some (y0) ∧ w'.cell? ⟨B5, 1, none⟩ = some (y1) ∧ w'.cell? ⟨B5, 2, none⟩ = some (y2) ∧ w'.cell? ⟨B5, 3, none⟩ = some (y3))) (by kernel_rfl) (⟨(F6.out.ext XE).c4, (F7.out.ext XE).c4⟩) (fun hHeld => ?_)
            refine wpAnyH_take (i := 0) (v := ?_) rfl (by kernel_rfl) (by kernel_rfl) (by kernel_rfl) (fun _ _ _ h => h) (Or.inl ⟨by rfl, fun w0 hSw => ?_⟩) hHeld ?_
            rotate_left
            · (try dsimp only at hSw)
              go_simp
              try with_reducible rfl
            simp only [Act.put, List.getElem_toArray, List.getElem_cons_succ, List.getElem_cons_zero, List.setIfInBounds_toArray, List.set_cons_zero, List.set_cons_succ]
            refine wpAnyH_take (i := 1) (v := ?_) rfl (by kernel_rfl) (by kernel_rfl) (by kernel_rfl) (fun _ _ _ h => h) (Or.inl ⟨by rfl, fun w0 hSw => ?_⟩) hHeld ?_
            rotate_left
            · (try dsimp only at hSw)
              go_simp
              try with_reducible rfl
            simp only [Act.put, List.getElem_toArray, List.getElem_cons_succ, List.getElem_cons_zero, List.setIfInBounds_toArray, List.set_cons_zero, List.set_cons_succ]
            refine wpAnyH_take (i := 2) rfl (by kernel_rfl) (by kernel_rfl) (by kernel_rfl) (fun _ _ _ h => h) (Or.inr ⟨by rfl, rfl⟩) hHeld ?_
            simp only [Act.put, List.getElem_toArray, List.getElem_cons_succ, List.getElem_cons_zero, List.setIfInBounds_toArray, List.set_cons_zero, List.set_cons_succ]
            refine wpAnyH_take (i := 3) rfl (by kernel_rfl) (by kernel_rfl) (by kernel_rfl) (fun _ _ _ h => h) (Or.inr ⟨by rfl, rfl⟩) hHeld ?_
            simp only [Act.put, List.getElem_toArray, List.getElem_cons_succ, List.getElem_cons_zero, List.setIfInBounds_toArray, List.set_cons_zero, List.set_cons_succ]
            refine wpAnyH_take (i := 4) rfl (by kernel_rfl) (by kernel_rfl) (by kernel_rfl) (fun _ _ _ h => h) (Or.inr ⟨by rfl, rfl⟩) hHeld ?_
            simp only [Act.put, List.getElem_toArray, List.getElem_cons_succ, List.getElem_cons_zero, List.setIfInBounds_toArray, List.set_cons_zero, List.set_cons_succ]
            refine wpAnyH_take (i := 5) rfl (by kernel_rfl) (by kernel_rfl) (by kernel_rfl) (fun _ _ _ h => h) (Or.inr ⟨by rfl, rfl⟩) hHeld ?_
            simp only [Act.put, List.getElem_toArray, List.getElem_cons_succ, List.getElem_cons_zero, List.setIfInBounds_toArray, List.set_cons_zero, List.set_cons_succ]
            refine wpAnyH_take (i := 6) rfl (by kernel_rfl) (by kernel_rfl) (by kernel_rfl) (fun _ _ _ h => h) (Or.inr ⟨by rfl, rfl⟩) hHeld ?_
            simp only [Act.put, List.getElem_toArray, List.getElem_cons_succ, List.getElem_cons_zero, List.setIfInBounds_toArray, List.set_cons_zero, List.set_cons_succ]
            refine wpAnyH_take (i := 7) rfl (by kernel_rfl) (by kernel_rfl) (by kernel_rfl) (fun _ _ _ h => h) (Or.inr ⟨by rfl, rfl⟩) hHeld ?_
            simp only [Act.put, List.getElem_toArray, List.getElem_cons_succ, List.getElem_cons_zero, List.setIfInBounds_toArray, List.set_cons_zero, List.set_cons_succ]
            refine wpAnyH_take (i := 8) rfl (by kernel_rfl) (by kernel_rfl) (by kernel_rfl) (fun _ _ _ h => h) (Or.inr ⟨by rfl, rfl⟩) hHeld ?_
            simp only [Act.put, List.getElem_toArray, List.getElem_cons_succ, List.getElem_cons_zero, List.setIfInBounds_toArray, List.set_cons_zero, List.set_cons_succ]
            refine wpAnyH_take (i := 9) rfl (by kernel_rfl) (by kernel_rfl) (by kernel_rfl) (fun _ _ _ h => h) (Or.inr ⟨by rfl, rfl⟩) hHeld ?_
            simp only [Act.put, List.getElem_toArray, List.getElem_cons_succ, List.getElem_cons_zero, List.setIfInBounds_toArray, List.set_cons_zero, List.set_cons_succ]
            refine wpAnyH_take (i := 10) rfl (by kernel_rfl) (by kernel_rfl) (by kernel_rfl) (fun _ _ _ h => h) (Or.inr ⟨by rfl, rfl⟩) hHeld ?_
            simp only [Act.put, List.getElem_toArray, List.getElem_cons_succ, List.getElem_cons_zero, List.setIfInBounds_toArray, List.set_cons_zero, List.set_cons_succ]
            refine wpAnyH_take (i := 11) rfl (by kernel_rfl) (by kernel_rfl) (by kernel_rfl) (fun _ _ _ h => h) (Or.inr ⟨by rfl, rfl⟩) hHeld ?_
            simp only [Act.put, List.getElem_toArray, List.getElem_cons_succ, List.getElem_cons_zero, List.setIfInBounds_toArray, List.set_cons_zero, List.set_cons_succ]
            refine wpAnyH_take (i := 12) (v := ?_) rfl (by kernel_rfl) (by kernel_rfl) (by kernel_rfl) (fun _ _ _ h => h) (Or.inl ⟨by rfl, fun w0 hSw => ?_⟩) hHeld ?_
            rotate_left
            · (try dsimp only at hSw)
              go_simp
              try with_reducible rfl
            simp only [Act.put, List.getElem_toArray, List.getElem_cons_succ, List.getElem_cons_zero, List.setIfInBounds_toArray, List.set_cons_zero, List.set_cons_succ]
            refine wpAnyH_take (i := 13) (v := ?_) rfl (by kernel_rfl) (by kernel_rfl) (by kernel_rfl) (fun _ _ _ h => h) (Or.inl ⟨by rfl, fun w0 hSw => ?_⟩) hHeld ?_
            rotate_left
            · (try dsimp only at hSw)
              go_simp
              try with_reducible rfl
            simp only [Act.put, List.getElem_toArray, List.getElem_cons_succ, List.getElem_cons_zero, List.setIfInBounds_toArray, List.set_cons_zero, List.set_cons_succ]
            refine wpAnyH_done (by kernel_rfl) ?_ _
            refine NoPanic.normal ?_
            go_wp2_with fail
            go_roundw
            case rel => exact ⟨m + 1, false, by go_num, by first | rfl | trivial, by omega, Ext.trans hx XE, HST.out false ⟨fun h => absurd h (by decide), fun h => absurd h.1 (by decide)⟩⟩
            case measure => simp [intOf] <;> omega
        · obtain rfl : m = vs.length := by omega
          have hd : decide ((vs.length : Int) < (vs.length : Int)) = false := decide_eq_false (by omega)
          rw [List.take_length] at hS
          have HF : Hid (sb = true ↔ ca = cb ∧ ∀ x, cf la x = cf lb x) := hS.out.trans ⟨fun h => ⟨h.1, in_rest HVX.out h.2⟩, fun h => ⟨h.1, fun x _ => h.2 x⟩⟩
          obtain ⟨w10, hw10⟩ : ∃ w0 : World, w0 = wr := ⟨_, rfl⟩
          subst hw10
          have b410 := Ext.trans b5 (Ext.trans b49 hx)
          have b010 := Ext.trans b04 b410
          have F1 := Lib.hid (D1.out.ext b410)
          have F2 := Lib.hid (D2.out.ext b410)
          go_upto_region 8 with (fail)
          have b11 := drew_ext w10
          have XE := b11
          refine wp_region_noPanic ?_
          refine wp_region_held_drew (S := fun w' => (w'.cell? ⟨w.heap.size, 0, none⟩ = some (.slice aa m0 ka) ∧ w'.cell? ⟨w.heap.size, 1, none⟩ = some (.bool g0) ∧ w'.cell? ⟨w.heap.size, 2, none⟩ = some (t1) ∧ w'.cell? ⟨w.heap.size, 3, none⟩ = some (t2)) ∧ (w'.cell? ⟨w.heap.size + 1, 0, none⟩ = some (.slice ab m1 kb) ∧ w'.cell? ⟨w.heap.size + 1, 1, none⟩ = some (.bool g1) ∧ w'.cell? ⟨w.heap.size + 1, 2, none⟩ = some (t4) ∧ w'.cell? ⟨w.heap.size + 1, 3, none⟩ = some (t5))) (by kernel_rfl) (⟨(F1.out.ext XE).c4, (F2.out.ext XE).c4⟩) (fun hHeld => ?_)
          refine wpAnyH_ready (rs := [0]) (by kernel_rfl) (by simp) ?_
          refine AllReadyH.cons (o := _) rfl (fun K hK => ?_) AllReadyH.nil
          go_simp
          go_at_call 36; refine (awake08).mono ?_; rintro e w12 ⟨_, rfl, b12, rfl⟩; (first | have XE := Ext.trans XE b12 | have XE := Ext.trans (Ext.trans XE (Ext.alloc _ _)) b12)
          go_wp2_with fail
          refine hK.out _ _ (⟨(F1.out.ext XE).c4, (F2.out.ext XE).c4⟩) (fun hHeld => ?_)
          clear hK K
          try simp only [Act.put, List.getElem_toArray, List.getElem_cons_succ, List.getElem_cons_zero, List.setIfInBounds_toArray, List.set_cons_zero, List.set_cons_succ]
          refine wpAnyH_take (i := 1) (v := ?_) rfl (by kernel_rfl) (by kernel_rfl) (by kernel_rfl) (fun _ _ _ h => h) (Or.inl ⟨by rfl, fun w0 hSw => ?_⟩) hHeld ?_
          rotate_left
          · (try dsimp only at hSw)
            go_simp
            try with_reducible rfl
          simp only [Act.put, List.getElem_toArray, List.getElem_cons_succ, List.getElem_cons_zero, List.setIfInBounds_toArray, List.set_cons_zero, List.set_cons_succ]
          refine wpAnyH_take (i := 2) (v := ?_) rfl (by kernel_rfl) (by kernel_rfl) (by kernel_rfl) (fun _ _ _ h => h) (Or.inl ⟨by rfl, fun w0 hSw => ?_⟩) hHeld ?_
          rotate_left
          · (try dsimp only at hSw)
            go_simp
            try with_reducible rfl
          simp only [Act.put, List.getElem_toArray, List.getElem_cons_succ, List.getElem_cons_zero, List.setIfInBounds_toArray, List.set_cons_zero, List.set_cons_succ]
          refine wpAnyH_take (i := 4) (v := ?_) rfl (by kernel_rfl) (by kernel_rfl) (by kernel_rfl) (fun _ _ _ h => h) (Or.inl ⟨by rfl, fun w0 hSw => ?_⟩) hHeld ?_
          rotate_left
          · (try dsimp only at hSw)
            go_simp
            try with_reducible rfl
          simp only [Act.put, List.getElem_toArray, List.getElem_cons_succ, List.getElem_cons_zero, List.setIfInBounds_toArray, List.set_cons_zero, List.set_cons_succ]
          refine wpAnyH_take (i := 7) (v := ?_) rfl (by kernel_rfl) (by kernel_rfl) (by kernel_rfl) (fun _ _ _ h => h) (Or.inl ⟨by rfl, fun w0 hSw => ?_⟩) hHeld ?_
          rotate_left
          · (try dsimp only at hSw)
            go_simp
            try with_reducible rfl
          simp only [Act.put, List.getElem_toArray, List.getElem_cons_succ, List.getElem_cons_zero, List.setIfInBounds_toArray, List.set_cons_zero, List.set_cons_succ]
          refine wpAnyH_ready (rs := [3]) (by kernel_rfl) (by simp) ?_
          refine AllReadyH.cons (o := _) rfl (fun K hK => ?_) AllReadyH.nil
          go_simp
          go_at_call 31; refine (HEA.out _ _ (HV0.out.ext (Ext.trans b010 XE))).mono ?_; rintro e w13 ⟨v13, rfl, b13, o13⟩; have O13 := Lib.hid o13; clear o13; (first | have XE := Ext.trans XE b13 | have XE := Ext.trans (Ext.trans XE (Ext.alloc _ _)) b13)
          go_wp2_with fail
          refine hK.out _ _ (⟨(F1.out.ext XE).c4, (F2.out.ext XE).c4⟩) (fun hHeld => ?_)
          clear hK K
          try simp only [Act.put, List.getElem_toArray, List.getElem_cons_succ, List.getElem_cons_zero, List.setIfInBounds_toArray, List.set_cons_zero, List.set_cons_succ]
          refine wpAnyH_ready (rs := [5]) (by kernel_rfl) (by simp) ?_
          refine AllReadyH.cons (o := _) rfl (fun K hK => ?_) AllReadyH.nil
          go_simp
          go_at_call 31; refine (HEB.out _ _ (HV1.out.ext (Ext.trans b010 XE))).mono ?_; rintro e w14 ⟨v14, rfl, b14, o14⟩; have O14 := Lib.hid o14; clear o14; (first | have XE := Ext.trans XE b14 | have XE := Ext.trans (Ext.trans XE (Ext.alloc _ _)) b14)
          go_wp2_with fail
          refine hK.out _ _ (⟨(F1.out.ext XE).c4, (F2.out.ext XE).c4⟩) (fun hHeld => ?_)
          clear hK K
          try simp only [Act.put, List.getElem_toArray, List.getElem_cons_succ, List.getElem_cons_zero, List.setIfInBounds_toArray, List.set_cons_zero, List.set_cons_succ]
          refine wpAnyH_ready (rs := [6]) (by kernel_rfl) (by simp) ?_
          refine AllReadyH.cons (o := _) rfl (fun K hK => ?_) AllReadyH.nil
          go_simp
          go_at_call 37; refine (HSM.out _ HF.out _ _ _ (O13.out.rd.ext b14) O14.out.rd).mono ?_; rintro e w15 ⟨_, rfl, b15, rfl⟩; (first | have XE := Ext.trans XE b15 | have XE := Ext.trans (Ext.trans XE (Ext.alloc _ _)) b15)
          go_wp2_with fail
          refine hK.out _ _ (⟨(F1.out.ext XE).c4, (F2.out.ext XE).c4⟩) (fun hHeld => ?_)
          clear hK K
          try simp only [Act.put, List.getElem_toArray, List.getElem_cons_succ, List.getElem_cons_zero, List.setIfInBounds_toArray, List.set_cons_zero, List.set_cons_succ]
          refine wpAnyH_take (i := 8) (v := ?_) rfl (by kernel_rfl) (by kernel_rfl) (by kernel_rfl) (fun _ _ _ h => h) (Or.inl ⟨by rfl, fun w0 hSw => ?_⟩) hHeld ?_
          rotate_left
          · (try dsimp only at hSw)
            go_simp
            try with_reducible rfl
          simp only [Act.put, List.getElem_toArray, List.getElem_cons_succ, List.getElem_cons_zero, List.setIfInBounds_toArray, List.set_cons_zero, List.set_cons_succ]
          refine wpAnyH_take (i := 9) (v := ?_) rfl (by kernel_rfl) (by kernel_rfl) (by kernel_rfl) (fun _ _ _ h => h) (Or.inl ⟨by rfl, fun w0 hSw => ?_⟩) hHeld ?_
          rotate_left
          · (try dsimp only at hSw)
            go_simp
            try with_reducible rfl
          simp only [Act.put, List.getElem_toArray, List.getElem_cons_succ, List.getElem_cons_zero, List.setIfInBounds_toArray, List.set_cons_zero, List.set_cons_succ]
          refine wpAnyH_take (i := 10) (v := ?_) rfl (by kernel_rfl) (by kernel_rfl) (by kernel_rfl) (fun _ _ _ h => h) (Or.inl ⟨by rfl, fun w0 hSw => ?_⟩) hHeld ?_
          rotate_left
          · (try dsimp only at hSw)
            go_simp
            try with_reducible rfl
          simp only [Act.put, List.getElem_toArray, List.getElem_cons_succ, List.getElem_cons_zero, List.setIfInBounds_toArray, List.set_cons_zero, List.set_cons_succ]
          refine wpAnyH_take (i := 11) (v := ?_) rfl (by kernel_rfl) (by kernel_rfl) (by kernel_rfl) (fun _ _ _ h => h) (Or.inl ⟨by rfl, fun w0 hSw => ?_⟩) hHeld ?_
          rotate_left
          · (try dsimp only at hSw)
            go_simp
            try with_reducible rfl
          simp only [Act.put, List.getElem_toArray, List.getElem_cons_succ, List.getElem_cons_zero, List.setIfInBounds_toArray, List.set_cons_zero, List.set_cons_succ]
          refine wpAnyH_take (i := 13) (v := ?_) rfl (by kernel_rfl) (by kernel_rfl) (by kernel_rfl) (fun _ _ _ h => h) (Or.inl ⟨by rfl, fun w0 hSw => ?_⟩) hHeld ?_
          rotate_left
          · (try dsimp only at hSw)
            go_simp
            try with_reducible rfl
          simp only [Act.put, List.getElem_toArray, List.getElem_cons_succ, List.getElem_cons_zero, List.setIfInBounds_toArray, List.set_cons_zero, List.set_cons_succ]
          refine wpAnyH_ready (rs := [12]) (by kernel_rfl) (by simp) ?_
          refine AllReadyH.cons (o := _) rfl (fun K hK => ?_) AllReadyH.nil
          go_simp
          go_at_call 31; refine (HEA.out _ _ (HV0.out.ext (Ext.trans b010 XE))).mono ?_; rintro e w16 ⟨v16, rfl, b16, o16⟩; have O16 := Lib.hid o16; clear o16; (first | have XE := Ext.trans XE b16 | have XE := Ext.trans (Ext.trans XE (Ext.alloc _ _)) b16)
          go_wp2_with fail
          refine hK.out _ _ (⟨(F1.out.ext XE).c4, (F2.out.ext XE).c4⟩) (fun hHeld => ?_)
          clear hK K
          try simp only [Act.put, List.getElem_toArray, List.getElem_cons_succ, List.getElem_cons_zero, List.setIfInBounds_toArray, List.set_cons_zero, List.set_cons_succ]
          refine wpAnyH_ready (rs := [14]) (by kernel_rfl) (by simp) ?_
          refine AllReadyH.cons (o := _) rfl (fun K hK => ?_) AllReadyH.nil
          go_simp
          go_at_call 31; refine (HEA.out _ _ (HV0.out.ext (Ext.trans b010 XE))).mono ?_; rintro e w17 ⟨v17, rfl, b17, o17⟩; have O17 := Lib.hid o17; clear o17; (first | have XE := Ext.trans XE b17 | have XE := Ext.trans (Ext.trans XE (Ext.alloc _ _)) b17)
          go_wp2_with fail
          refine hK.out _ _ (⟨(F1.out.ext XE).c4, (F2.out.ext XE).c4⟩) (fun hHeld => ?_)
          clear hK K
          try simp only [Act.put, List.getElem_toArray, List.getElem_cons_succ, List.getElem_cons_zero, List.setIfInBounds_toArray, List.set_cons_zero, List.set_cons_succ]
          refine wpAnyH_ready (rs := [15]) (by kernel_rfl) (by simp) ?_
          refine AllReadyH.cons (o := _) rfl (fun K hK => ?_) AllReadyH.nil
          go_simp
          go_at_call 38; refine (HCN.out _ _ O17.out.rd).mono ?_; rintro e w18 ⟨v18, rfl, b18, o18⟩; have O18 := Lib.hid o18; clear o18; (first | have XE := Ext.trans XE b18 | have XE := Ext.trans (Ext.trans XE (Ext.alloc _ _)) b18)
          go_wp2_with fail
          refine hK.out _ _ (⟨(F1.out.ext XE).c4, (F2.out.ext XE).c4⟩) (fun hHeld => ?_)
          clear hK K
          try simp only [Act.put, List.getElem_toArray, List.getElem_cons_succ, List.getElem_cons_zero, List.setIfInBounds_toArray, List.set_cons_zero, List.set_cons_succ]
          refine wpAnyH_ready (rs := [16]) (by kernel_rfl) (by simp) ?_
          refine AllReadyH.cons (o := _) rfl (fun K hK => ?_) AllReadyH.nil
          go_simp
          go_at_call 37; refine (HSC.out _ _ _ (O16.out.rd.ext (Ext.trans b17 b18)) O18.out).mono ?_; rintro e w19 ⟨_, rfl, b19, rfl⟩; (first | have XE := Ext.trans XE b19 | have XE := Ext.trans (Ext.trans XE (Ext.alloc _ _)) b19)
          go_wp2_with fail
          refine hK.out _ _ (⟨(F1.out.ext XE).c4, (F2.out.ext XE).c4⟩) (fun hHeld => ?_)
          clear hK K
          try simp only [Act.put, List.getElem_toArray, List.getElem_cons_succ, List.getElem_cons_zero, List.setIfInBounds_toArray, List.set_cons_zero, List.set_cons_succ]
          refine wpAnyH_take (i := 17) (v := ?_) rfl (by kernel_rfl) (by kernel_rfl) (by kernel_rfl) (fun _ _ _ h => h) (Or.inl ⟨by rfl, fun w0 hSw => ?_⟩) hHeld ?_
          rotate_left
          · (try dsimp only at hSw)
            go_simp
            try with_reducible rfl
          simp only [Act.put, List.getElem_toArray, List.getElem_cons_succ, List.getElem_cons_zero, List.setIfInBounds_toArray, List.set_cons_zero, List.set_cons_succ]
          refine wpAnyH_take (i := 18) (v := ?_) rfl (by kernel_rfl) (by kernel_rfl) (by kernel_rfl) (fun _ _ _ h => h) (Or.inl ⟨by rfl, fun w0 hSw => ?_⟩) hHeld ?_
          rotate_left
          · (try dsimp only at hSw)
            go_simp
            try with_reducible rfl
          simp only [Act.put, List.getElem_toArray, List.getElem_cons_succ, List.getElem_cons_zero, List.setIfInBounds_toArray, List.set_cons_zero, List.set_cons_succ]
          refine wpAnyH_done (by kernel_rfl) ?_ _
          refine NoPanic.normal ?_
          go_wp2_with fail
          exact hR.out _ _ (Gives.mk (Ext.trans b010 XE) rfl)
theorem own : ownKnob Try.prog.godebug = none := by kernel_rfl
theorem laidOut : laidOutB Try.prog = true := by kernel_rfl

set_option maxRecDepth 100000 in
theorem contract (H : Type) (enc : TypeId × Value → H) (W : World) (base : Nat) (args : Array Value) (ds gs : List (DataW H)) (before : List MemPlace)
    (hval : ∀ (j : Nat) t v, Try.f4.params[j]? = some t → args[j]? = some v → Value.okWide Try.prog W .any base t v)
    (hW : DataW.Whole enc Try.prog Try.f4.params.toList Rows.linSamesSpec.vars false W args.toList ds gs before) (hk : Rows.uptoSmall H (ds ++ gs) = true) :
    Calls Try.prog 4 args W fun e W' => ∃ v, e = .returned v ∧ Rows.linSamesSpec.post enc Try.prog Try.f4 false true false false W args v W' := by
  have hW' := hW
  obtain ⟨p, q, hA0, hV, rfl, hfz, hnd⟩ := hW
  have hA : DataW.TrodAll enc Try.prog W 0 (fun _ => true) true Try.f4.params.toList args.toList ds p := hA0
  rw [Try.params4] at hA hval
  obtain ⟨v0, vs0, d0, ds0, p0, q0, hargs, rfl, rfl, h0, r0⟩ := trodAll_cons hA
  obtain ⟨v1, vs1, d1, ds1, p1, q1, rfl, rfl, rfl, h1, r1⟩ := trodAll_cons r0
  obtain ⟨rfl, rfl, rfl⟩ := trodAll_nil r1
  obtain rfl : args = #[v0, v1] := by cases args; simp_all
  obtain ⟨rfl, rfl⟩ := trodVars_none hV
  have hb := bulk_small hk
  simp only [List.append_nil, bulk_cons, bulk_nil] at hb
  have k0 := h0
  have lt0 : ∀ x ∈ p0, x.block < W.heap.size := by obtain ⟨m, hm⟩ := k0; exact DataW.trod_lt m _ _ _ hm
  obtain ⟨l0, n0, rd0, bd0, bn0, len0⟩ := open_E (hval 0 60 v0 rfl rfl) h0
  have k1 := h1
  have lt1 : ∀ x ∈ p1, x.block < W.heap.size := by obtain ⟨m, hm⟩ := k1; exact DataW.trod_lt m _ _ _ hm
  obtain ⟨l1, n1, rd1, bd1, bn1, len1⟩ := open_E (hval 1 60 v1 rfl rfl) h1
  clear hA0
  refine (walk rd0 (fun p hp => by have := bd0 p hp; omega) (by omega) (by omega) rd1 (fun p hp => by have := bd1 p hp; omega) (by omega) (by omega)).mono fun e W' ⟨v, he, bel, hv⟩ => ?_
  subst he hv
  exact ⟨_, rfl, _, _, _, [], _, [], hW', trodAll_mk1 (shut_bool Try.underlying4 _), (trodAll_cons_mk (Below.trod laidOut (by kernel_rfl) (of_decide_eq_true (by kernel_rfl)) k0 bel lt0) (trodAll_cons_mk (Below.trod laidOut (by kernel_rfl) (of_decide_eq_true (by kernel_rfl)) k1 bel lt1) trodAll_mk0)), rfl, bel.frame _, fun h => by cases h⟩

set_option maxRecDepth 100000 in
theorem lifted (os : Os) (started : os.Started) (H : Type) (enc : TypeId × Value → H) (F : Stop.Interp) :
    ReturnsInHanded {} Try.checked os 4 .any ((Rows.OpenSpec.upto Rows.linSamesSpec).pre6 enc Try.prog Try.f4 Rows.linSamesUptoRow.domain false) (((Rows.OpenSpec.upto Rows.linSamesSpec).at F).post enc Try.prog Try.f4 false true false false) := by
  refine returnsInHanded_of_cond (C := Try.checked) (s := Rows.OpenSpec.upto Rows.linSamesSpec) (k := Rows.uptoSmall) rfl own started (by kernel_rfl) Try.func4
    (OpenSpec.witness (enc := enc) (C := Try.checked) (s := Rows.OpenSpec.upto Rows.linSamesSpec) (k := Rows.uptoSmall) rfl false ⟨#[], #[.agg #[.slice none 0 0, .bool false, .slice none 0 0, .slice none 0 0], .agg #[.slice none 0 0, .bool false, .slice none 0 0, .slice none 0 0]], []⟩ 8 (by kernel_rfl) (by kernel_rfl) (by kernel_rfl)
      (x := ([.agg [.nil, .agg [.lit (.bool false), .nil, .nil]], .agg [.nil, .agg [.lit (.bool false), .nil, .nil]]], [], [])) (by kernel_rfl) rfl (by kernel_rfl)) ?_
  intro W base args ds gs before hval hW _ hk _
  exact contract H enc W base args ds gs before hval hW hk

theorem proved : Rows.LinSamesUptoSaid :=
  OpenClaim.holds_of_cond 4 Try.f4 rfl rfl rfl rfl rfl rfl rfl ⟨rfl, rfl, rfl, rfl, rfl⟩ rfl rfl rfl rfl rfl (by kernel_rfl) Try.func4 (by kernel_rfl)
    (of_decide_eq_true (by kernel_rfl)) (by unfold Func.isWrapper; first | (rw [if_pos (by decide +kernel)]; kernel_rfl) | (rw [if_neg (by decide +kernel)]; exact ⟨rfl, rfl⟩))
    (fun os started H enc _ F => lifted os started H enc F)
#print axioms proved

end Go.Proofs.Ytnbbhpihlcglgaa.linSames
