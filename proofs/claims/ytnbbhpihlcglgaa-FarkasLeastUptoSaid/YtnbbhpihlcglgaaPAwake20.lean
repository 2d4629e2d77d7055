/- attestlaw20.awake -/
import Derived.Test.YtnbbhpihlcglgaaPFarkRef
import Derived.Test.YtnbbhpihlcglgaaLinAll
import Derived.Test.YtnbbhpihlcglgaaPAwake08
import Derived.Test.YtnbbhpihlcglgaaLinPlain
import Derived.Great.BuildSlice
namespace Go.Proofs.Ytnbbhpihlcglgaa
open Go.RowKit Go.Att

theorem fill25 (x0 x1 x2 x3 x4 y0 y1 y2 y3 y4 : Value) :
    Instr.fill (fun i => some (i * 5, 5)) ((Array.range (2 * 5)).map ((Value.agg #[.slice none 0 0, .bool false, .slice none 0 0, .slice none 0 0, .int .i64 0]).cells[· % (Value.agg #[.slice none 0 0, .bool false, .slice none 0 0, .slice none 0 0, .int .i64 0]).cells.size]!)) [(0, .agg #[x0, x1, x2, x3, x4]), (1, .agg #[y0, y1, y2, y3, y4])] = some #[x0, x1, x2, x3, x4, y0, y1, y2, y3, y4] := by kernel_rfl
theorem fill23 (x0 x1 x2 y0 y1 y2 : Value) :
    Instr.fill (fun i => some (i * 3, 3)) ((Array.range (2 * 3)).map ((Value.agg #[.bool false, .slice none 0 0, .slice none 0 0]).cells[· % (Value.agg #[.bool false, .slice none 0 0, .slice none 0 0]).cells.size]!)) [(0, .agg #[x0, x1, x2]), (1, .agg #[y0, y1, y2])] = some #[x0, x1, x2, y0, y1, y2] := by kernel_rfl
/-- A literal of two constraints. -/
theorem build25K {P : Program} {o : Oper} {a : Act} {K : Act → World → Prop} {Q : Exit → Act → World → Prop} {w : World} {t e : TypeId} {bytes : Nat} (ET : ElemT P t e (.agg #[.slice none 0 0, .bool false, .slice none 0 0, .slice none 0 0, .int .i64 0]) 5 bytes) {x y : Operand} (ho : o.op = .buildSlice t 2 #[(0, x), (1, y)])
    {x0 x1 x2 x3 x4 y0 y1 y2 y3 y4 : Value} (hx : a.eval x = .agg #[x0, x1, x2, x3, x4]) (hy : a.eval y = .agg #[y0, y1, y2, y3, y4])
    (h : K (a.put o.dst (.slice (some ⟨w.heap.size, 0, none⟩) 2 2)) (w.alloc (.cells #[x0, x1, x2, x3, x4, y0, y1, y2, y3, y4] e))) : o.wp P a w K Q := by
  obtain ⟨i, hi, hz, hsz, -⟩ := ET.inf
  refine wp_buildSlice t e 2 _ ho _ i _ ET.und hi hz (by rw [hsz]; decide) (by rw [hsz]; decide) ?_ h
  rw [hsz]
  have hp : (#[(0, x), (1, y)].map fun (i, x) => (i, a.eval x)).toList = [(0, a.eval x), (1, a.eval y)] := by simp
  rw [hp, hx, hy]
  exact fill25 ..
/-- A literal of two numbers. -/
theorem build23K {P : Program} {o : Oper} {a : Act} {K : Act → World → Prop} {Q : Exit → Act → World → Prop} {w : World} {t e : TypeId} {bytes : Nat} (ET : ElemT P t e (.agg #[.bool false, .slice none 0 0, .slice none 0 0]) 3 bytes) {x y : Operand} (ho : o.op = .buildSlice t 2 #[(0, x), (1, y)])
    {x0 x1 x2 y0 y1 y2 : Value} (hx : a.eval x = .agg #[x0, x1, x2]) (hy : a.eval y = .agg #[y0, y1, y2])
    (h : K (a.put o.dst (.slice (some ⟨w.heap.size, 0, none⟩) 2 2)) (w.alloc (.cells #[x0, x1, x2, y0, y1, y2] e))) : o.wp P a w K Q := by
  obtain ⟨i, hi, hz, hsz, -⟩ := ET.inf
  refine wp_buildSlice t e 2 _ ho _ i _ ET.und hi hz (by rw [hsz]; decide) (by rw [hsz]; decide) ?_ h
  rw [hsz]
  have hp : (#[(0, x), (1, y)].map fun (i, x) => (i, a.eval x)).toList = [(0, a.eval x), (1, a.eval y)] := by simp
  rw [hp, hx, hy]
  exact fill23 ..
def L2A (L : List AT) (w : World) (v : Value) : Prop := RdRow 5 OwnA w v L
theorem L2A.ext {L : List AT} {w w' : World} {v : Value} (h : L2A L w v) (x : Ext w w') : L2A L w' v := RdRow.ext h OwnAt.ext x
def L2Q (P : List Rat) (w : World) (v : Value) : Prop := RdRow 3 (OwnQp 163) w v P
theorem L2Q.ext {P : List Rat} {w w' : World} {v : Value} (h : L2Q P w v) (x : Ext w w') : L2Q P w' v := RdRow.ext h OwnQ.ext x
def Vl (u : Value) (_ : World) (v : Value) : Prop := v = u
theorem Vl.ext {u : Value} {w w' : World} {v : Value} (h : Vl u w v) (_ : Ext w w') : Vl u w' v := h
theorem lit_row {α : Type} {k : Nat} {T : World → Value → α → Prop} (w : World) (E : List (List Value)) (cs : Array Value) (t : TypeId) {l : List α} (hE : E.flatten.toArray = cs) (hp : Pw k (fun c a => T w (.agg c.toArray) a) E l) (hT : ∀ {w w' v a}, T w v a → Ext w w' → T w' v a) (hl : l.length ≤ maxLen) :
    RdRow k T (w.alloc (.cells cs t)) (.slice (some ⟨w.heap.size, 0, none⟩) l.length l.length) l := hE ▸ RdRow.lit w E t hp hT hl
/-- One block of a constraint laid. -/
theorem meet5 {w0 wv : World} {B : Nat} (rB : Rt wv B 5 111) (hx : Ext w0 wv) (hB : w0.heap.size ≤ B) {x0 x1 x2 x3 x4 : Value} {p : AT} (o : OwnA wv (.agg #[x0, x1, x2, x3, x4]) p) :
    ∃ W, W = ((((wv.setCell ⟨B, 0, none⟩ x0).setCell ⟨B, 1, none⟩ x1).setCell ⟨B, 2, none⟩ x2).setCell ⟨B, 3, none⟩ x3).setCell ⟨B, 4, none⟩ x4 ∧ Ext w0 W ∧ Hid (Bx W B [x0, x1, x2, x3, x4]) ∧ Hid (OwnA W (.agg #[x0, x1, x2, x3, x4]) p) := by
  refine ⟨Att.putL wv B 0 [x0, x1, x2, x3, x4], rfl, putL_below hB _ _ hx, Lib.hid (rB.putL_at [x0, x1, x2, x3, x4] rfl).1, ?_⟩
  obtain ⟨s, x, y, z, he, h⟩ := o
  exact Lib.hid ⟨s, x, y, z, he, h.putT rB (by decide) (by decide) 0 _⟩
set_option maxHeartbeats 20000000 in
set_option maxRecDepth 100000 in
set_option linter.unusedSimpArgs false in
theorem awake20 {w : World} : Calls Try.prog 60 #[] w (Gives w fun v' _ => v' = .bool true) := by
  refine via fun R hR => ?_
  have n1 : ((1 : Int) : Rat) ≠ 0 := by decide +kernel
  have nm1 : ((-1 : Int) : Rat) ≠ 0 := by decide +kernel
  have S1 := Sz.int 1 (by omega)
  have S2 := Sz.int 2 (by omega)
  have Sm := Sz.int (-1) (by omega)
  have HV : Hid (∀ w, Calls Try.prog 49 #[.int .i64 0] w (Gives w fun v' w' => OwnX 0 w' v' [((0 : Int), ((1 : Int) : Rat))] 0)) := fun w => lvar_any.mono fun _ _ ⟨v, e, b, o⟩ => ⟨v, e, b, o.mono (Nat.zero_le _)⟩
  have HI1 : Hid (∀ w, Calls Try.prog 44 #[.int .i64 1] w (Gives w fun v' w' => OwnQ 163 0 w' v' ((1 : Int) : Rat))) := fun w => (rint_any (by omega)).mono fun _ _ ⟨v, e, b, o⟩ => ⟨v, e, b, o.mono (Nat.zero_le _)⟩
  have HI2 : Hid (∀ w, Calls Try.prog 44 #[.int .i64 2] w (Gives w fun v' w' => OwnQ 163 0 w' v' ((2 : Int) : Rat))) := fun w => (rint_any (by omega)).mono fun _ _ ⟨v, e, b, o⟩ => ⟨v, e, b, o.mono (Nat.zero_le _)⟩
  have HO : Hid (∀ w v q, OwnQ 163 0 w v q → Calls Try.prog 50 #[v] w (Gives w fun v' w' => OwnX 0 w' v' [] q)) := fun w v q h => (lof_any h).mono fun _ _ ⟨v, e, b, o⟩ => ⟨v, e, b, o.mono (Nat.zero_le _)⟩
  have HSA : Hid (∀ w va vb, RdX w va [((0 : Int), ((1 : Int) : Rat))] 0 → RdX w vb [] ((1 : Int) : Rat) → Calls Try.prog 42 #[va, vb] w (Gives w fun v' w' => OwnX 0 w' v' [((0 : Int), ((1 : Int) : Rat))] ((-1 : Int) : Rat))) := fun w va vb h1 h2 =>
    (lsub_any 2 2 h1 h2 (by intro t ht; simp at ht; subst ht; exact S1) (fun t ht => by cases ht) (Sz.zero.le (by decide)) S1 (by decide) (by decide) (by decide)).mono fun _ _ ⟨v, e, b, l', hf, hc, _, _, o⟩ => ⟨v, e, b, by
      have h := FormT.uniq hf (form_single n1) (fun x => by
        rw [hc]
        show cf _ x - 0 = _
        grind)
      rw [h, show (0 : Rat) - ((1 : Int) : Rat) = ((-1 : Int) : Rat) by decide +kernel] at o
      exact o.mono (Nat.zero_le _)⟩
  have HSB : Hid (∀ w va vb, RdX w va [] ((2 : Int) : Rat) → RdX w vb [((0 : Int), ((1 : Int) : Rat))] 0 → Calls Try.prog 42 #[va, vb] w (Gives w fun v' w' => OwnX 0 w' v' [((0 : Int), ((-1 : Int) : Rat))] ((2 : Int) : Rat))) := fun w va vb h1 h2 =>
    (lsub_any 2 2 h1 h2 (fun t ht => by cases ht) (by intro t ht; simp at ht; subst ht; exact S1) S2 (Sz.zero.le (by decide)) (by decide) (by decide) (by decide)).mono fun _ _ ⟨v, e, b, l', hf, hc, _, _, o⟩ => ⟨v, e, b, by
      have h := FormT.uniq hf (form_single nm1) (fun x => by
        rw [hc]
        show 0 - cf _ x = _
        rw [cf_single, cf_single]
        split
        · decide +kernel
        · decide +kernel)
      rw [h, show ((2 : Int) : Rat) - (0 : Rat) = ((2 : Int) : Rat) by decide +kernel] at o
      exact o.mono (Nat.zero_le _)⟩
  have HLS : ∀ a ∈ [(([((0 : Int), ((1 : Int) : Rat))], ((-1 : Int) : Rat)), (1 : Int)), (([((0 : Int), ((-1 : Int) : Rat))], ((2 : Int) : Rat)), 1)], Smx a.1.1 a.1.2 := by
    intro a ha
    simp at ha
    rcases ha with rfl | rfl
    · exact ⟨by simp, fun t ht => by simp at ht; subst ht; exact S1.le (by decide), Sm.le (by decide)⟩
    · exact ⟨by simp, fun t ht => by simp at ht; subst ht; exact Sm.le (by decide), S2.le (by decide)⟩
  have HP2 : ∀ p ∈ [((1 : Int) : Rat), ((2 : Int) : Rat)], Sz 20 p := by
    intro p hp
    rcases List.mem_cons.1 hp with rfl | hp
    · exact S1.le (by decide)
    · rcases List.mem_cons.1 hp with rfl | hp
      · exact S2.le (by decide)
      · cases hp
  have HR1 : Hid (∀ w va vb, L2A [(([((0 : Int), ((1 : Int) : Rat))], ((-1 : Int) : Rat)), (1 : Int)), (([((0 : Int), ((-1 : Int) : Rat))], ((2 : Int) : Rat)), 1)] w va → L2Q [((1 : Int) : Rat), ((1 : Int) : Rat)] w vb → Calls Try.prog 57 #[va, vb] w (Gives w fun v' w' => Vl (.tuple #[.bool true, .int .i64 0]) w' v')) := fun w va vb h1 h2 =>
    (frefutes_any h1 h2 HLS (by intro p hp; simp at hp; subst hp; exact S1.le (by decide)) (by decide)).mono fun _ _ ⟨v, e, b, t, er, ht, hr⟩ => ⟨v, e, b, by
      show v = _
      unfold RefV at hr
      rw [if_neg (by decide), if_neg (by decide +kernel)] at hr
      obtain ⟨rfl, hr⟩ := hr
      rw [ht, hr.2 ⟨fun x => by
        show ((1 : Int) : Rat) * cf [((0 : Int), ((1 : Int) : Rat))] x + (((1 : Int) : Rat) * cf [((0 : Int), ((-1 : Int) : Rat))] x + 0) = 0
        rw [cf_single, cf_single]
        split
        · decide +kernel
        · decide +kernel, .inl (by decide +kernel)⟩]⟩
  have HR2 : Hid (∀ w va vb, L2A [(([((0 : Int), ((1 : Int) : Rat))], ((-1 : Int) : Rat)), (1 : Int)), (([((0 : Int), ((-1 : Int) : Rat))], ((2 : Int) : Rat)), 1)] w va → L2Q [((1 : Int) : Rat), ((2 : Int) : Rat)] w vb → Calls Try.prog 57 #[va, vb] w (Gives w fun v' w' => Vl (.tuple #[.bool false, .int .i64 0]) w' v')) := fun w va vb h1 h2 =>
    (frefutes_any h1 h2 HLS HP2 (by decide)).mono fun _ _ ⟨v, e, b, t, er, ht, hr⟩ => ⟨v, e, b, by
      show v = _
      unfold RefV at hr
      rw [if_neg (by decide), if_neg (by decide +kernel)] at hr
      obtain ⟨rfl, hr⟩ := hr
      have : t = false := by
        cases t with
        | false => rfl
        | true =>
          have h := (hr.1 rfl).1 0
          exact absurd h (by decide +kernel)
      rw [ht, this]⟩
  clear n1 nm1 S1 S2 Sm HLS HP2
  generalize ((1 : Int) : Rat) = q1 at *
  generalize ((2 : Int) : Rat) = q2 at *
  generalize ((-1 : Int) : Rat) = qm at *
  go_enter Try.func60, Try.ntmps60
  go_wp2_with fail
  refine (HV.out w).mono ?_
  rintro e w1 ⟨_, rfl, b1, o1⟩
  obtain ⟨a, k, s, b, m, d, b', m', d', rfl, -, -, O1⟩ := o1.op
  clear o1
  change Hid (OwnX 0 w1 (.agg #[.slice a 1 k, .bool s, .slice b m d, .slice b' m' d']) [((0 : Int), q1)] 0) at O1
  obtain ⟨w2, hw2, b2, c2, -, -⟩ := bx1 w1 [.slice a 1 k, .bool s, .slice b m d, .slice b' m' d'] 63
  have HW := Lib.hid hw2
  have C2 := Lib.hid c2
  clear hw2 c2
  show _
  go_upto_region 2 with (fail)
  rw [← HW.out]
  clear HW
  have HX2 := Lib.hid (O1.out.rd.ext b2)
  have SZ2 : Hid (w1.heap.size < w2.heap.size) := C2.out.lt
  obtain ⟨BX, hBX⟩ : ∃ BX, w1.heap.size = BX := ⟨_, rfl⟩
  rw [hBX] at C2 SZ2 ⊢
  clear hBX O1
  go_cut [2] (fun s2 wx => ∃ (B : Nat) (x0 x1 x2 x3 : Value), s2 = .pointer (some ⟨B, 0, none⟩) ∧ Ext w2 wx ∧ Hid (Bx wx B [x0, x1, x2, x3, .int .i64 1]) ∧ Hid (OwnA wx (.agg #[x0, x1, x2, x3, .int .i64 1]) (([((0 : Int), q1)], qm), 1)))
  case first =>
    as_aux_lemma =>
      refine wp_region_noPanic ?_
      refine wp_region_held_drew (S := fun w' => w'.cell? ⟨BX, 0, none⟩ = some (.slice a 1 k) ∧ w'.cell? ⟨BX, 1, none⟩ = some (.bool s) ∧ w'.cell? ⟨BX, 2, none⟩ = some (.slice b m d) ∧ w'.cell? ⟨BX, 3, none⟩ = some (.slice b' m' d')) (by kernel_rfl) ((C2.out.ext (drew_ext w2)).c4) (fun hHeld => ?_)
      refine wpAnyH_take (i := 0) (v := ?_) rfl (by kernel_rfl) (by kernel_rfl) (by kernel_rfl) (fun _ _ _ h => h) (Or.inl ⟨by rfl, fun w0 hSw => ?_⟩) hHeld ?_
      rotate_left
      · (try dsimp only at hSw)
        go_simp
        try with_reducible rfl
      simp only [Act.put, List.getElem_toArray, List.getElem_cons_succ, List.getElem_cons_zero, List.setIfInBounds_toArray, List.set_cons_zero, List.set_cons_succ]
      refine anyH_cap fun O Q9 AA hO hQ hA => ?_
      obtain ⟨SS, hSS⟩ : ∃ SS : World → Prop, Hid (SS = fun w' => w'.cell? ⟨BX, 0, none⟩ = some (.slice a 1 k) ∧ w'.cell? ⟨BX, 1, none⟩ = some (.bool s) ∧ w'.cell? ⟨BX, 2, none⟩ = some (.slice b m d) ∧ w'.cell? ⟨BX, 3, none⟩ = some (.slice b' m' d')) := ⟨_, rfl⟩
      have KP : Hid (∀ wv, Ext w2 wv → SS wv) := fun wv XE => by rw [hSS.out]; exact (C2.out.ext XE).c4
      have L4_5 : ∀ (wv : World) (v1 v2 v3 v4 : Value) (B5 : Nat), Hid (Ext w2 wv) → Hid (OwnQ 163 0 wv v1 q1) → Hid (OwnX 0 wv v2 [] q1) → Hid (OwnX 0 wv v3 [((0 : Int), q1)] qm) → Hid (OwnA wv v4 (([((0 : Int), q1)], qm), 1)) → Hid (Rt wv B5 5 111) → Hid (w2.heap.size ≤ B5) → wpAnyH Try.prog .any O Q9 SS 1 #[true, true, true, true, true, true, false] (((((AA.put (some 10) v1).put (some 11) v2).put (some 12) v3).put (some 13) v4).put (some 2) (.pointer (some ⟨B5, 0, none⟩))) wv := by
        intro wv v1 v2 v3 v4 B5 hX p1 p2 p3 p4 r5 s5
        have hO1 := hO.out
        have hQ1 := hQ.out
        have hA1 := hA.out
        subst hO1
        subst hQ1
        subst hA1
        have XE := hX.out
        have hS1 := hSS.out
        subst hS1
        have hHeld : (fun w' => w'.cell? ⟨BX, 0, none⟩ = some (.slice a 1 k) ∧ w'.cell? ⟨BX, 1, none⟩ = some (.bool s) ∧ w'.cell? ⟨BX, 2, none⟩ = some (.slice b m d) ∧ w'.cell? ⟨BX, 3, none⟩ = some (.slice b' m' d')) wv := (C2.out.ext XE).c4
        try simp only [Act.put, List.getElem_toArray, List.getElem_cons_succ, List.getElem_cons_zero, List.setIfInBounds_toArray, List.set_cons_zero, List.set_cons_succ]
        have k0_5 : BX ≠ B5 := by have h1 := s5.out; have hz0 := SZ2.out; omega
        obtain ⟨_, _, _, _, _, i5_0, i5_1, i5_2, i5_3, i5_4, f5_0, f5_1, f5_2, f5_3, f5_4⟩ := r5.out.c5
        obtain ⟨g0, g1, g2, g3, g4, g5, g6, g7, g8, rfl, -⟩ := p4.out.op
        have OA := p4.out
        refine wpAnyH_ready (rs := [6]) (by kernel_rfl) (by simp) ?_
        refine AllReadyH.cons (o := _) rfl (fun K hK => ?_) AllReadyH.nil
        go_simp
        refine hK.out _ _ (((C2.out.ext XE).putL k0_5 0 [_, _, _, _, _]).c4) (fun hHeld => ?_)
        clear hK K
        try simp only [Act.put, List.getElem_toArray, List.getElem_cons_succ, List.getElem_cons_zero, List.setIfInBounds_toArray, List.set_cons_zero, List.set_cons_succ]
        refine wpAnyH_done (by kernel_rfl) ?_ _
        refine NoPanic.normal ?_
        go_wp2_with fail
        go_meet
        obtain ⟨W, hW, hM1, hM2, hM3⟩ := meet5 r5.out hX.out s5.out OA
        simp only [List.length_cons, List.length_nil, Nat.zero_add] at hW
        rw [← hW]
        exact ⟨B5, _, _, _, _, rfl, hM1, hM2, hM3⟩
      have L3_5 : ∀ (wv : World) (v1 v2 v3 : Value) (B5 : Nat), Hid (Ext w2 wv) → Hid (OwnQ 163 0 wv v1 q1) → Hid (OwnX 0 wv v2 [] q1) → Hid (OwnX 0 wv v3 [((0 : Int), q1)] qm) → Hid (Rt wv B5 5 111) → Hid (w2.heap.size ≤ B5) → wpAnyH Try.prog .any O Q9 SS 2 #[true, true, true, true, false, true, false] ((((AA.put (some 10) v1).put (some 11) v2).put (some 12) v3).put (some 2) (.pointer (some ⟨B5, 0, none⟩))) wv := by
        intro wv v1 v2 v3 B5 hX p1 p2 p3 r5 s5
        have hO1 := hO.out
        have hQ1 := hQ.out
        have hA1 := hA.out
        subst hO1
        subst hQ1
        subst hA1
        have XE := hX.out
        have hS1 := hSS.out
        subst hS1
        have hHeld : (fun w' => w'.cell? ⟨BX, 0, none⟩ = some (.slice a 1 k) ∧ w'.cell? ⟨BX, 1, none⟩ = some (.bool s) ∧ w'.cell? ⟨BX, 2, none⟩ = some (.slice b m d) ∧ w'.cell? ⟨BX, 3, none⟩ = some (.slice b' m' d')) wv := (C2.out.ext XE).c4
        try simp only [Act.put, List.getElem_toArray, List.getElem_cons_succ, List.getElem_cons_zero, List.setIfInBounds_toArray, List.set_cons_zero, List.set_cons_succ]
        obtain ⟨f0, f1, f2, f3, f4, f5, f6, f7, f8, rfl, -, -, OX⟩ := p3.out.op
        refine wpAnyH_take (i := 4) (v := ?_) rfl (by kernel_rfl) (by kernel_rfl) (by kernel_rfl) (fun _ _ _ h => h) (Or.inl ⟨by rfl, fun w0 hSw => ?_⟩) hHeld ?_
        rotate_left
        · (try dsimp only at hSw)
          go_simp
          try with_reducible rfl
        simp only [Act.put, List.getElem_toArray, List.getElem_cons_succ, List.getElem_cons_zero, List.setIfInBounds_toArray, List.set_cons_zero, List.set_cons_succ]
        exact wpAnyH_at (L4_5 wv _ _ _ _ B5 hX.out p1.out p2.out p3.out (⟨_, _, _, _, rfl, p3.out⟩) r5.out s5.out) (by kernel_rfl) (by kernel_rfl) (by kernel_rfl)
      have L4_ : ∀ (wv : World) (v1 v2 v3 v4 : Value), Hid (Ext w2 wv) → Hid (OwnQ 163 0 wv v1 q1) → Hid (OwnX 0 wv v2 [] q1) → Hid (OwnX 0 wv v3 [((0 : Int), q1)] qm) → Hid (OwnA wv v4 (([((0 : Int), q1)], qm), 1)) → wpAnyH Try.prog .any O Q9 SS 2 #[true, true, true, true, true, false, false] ((((AA.put (some 10) v1).put (some 11) v2).put (some 12) v3).put (some 13) v4) wv := by
        intro wv v1 v2 v3 v4 hX p1 p2 p3 p4
        have hO1 := hO.out
        have hQ1 := hQ.out
        have hA1 := hA.out
        subst hO1
        subst hQ1
        subst hA1
        have XE := hX.out
        try simp only [Act.put, List.getElem_toArray, List.getElem_cons_succ, List.getElem_cons_zero, List.setIfInBounds_toArray, List.set_cons_zero, List.set_cons_succ]
        refine wpAnyH_ready (rs := [5]) (by kernel_rfl) (by simp) ?_
        refine AllReadyH.cons (o := _) rfl (fun K hK => ?_) AllReadyH.nil
        go_simp
        refine hK.out _ _ (KP.out _ (Ext.trans XE (Ext.alloc _ _))) (fun _ => ?_)
        clear hK K
        try simp only [Act.put, List.getElem_toArray, List.getElem_cons_succ, List.getElem_cons_zero, List.setIfInBounds_toArray, List.set_cons_zero, List.set_cons_succ]
        exact wpAnyH_at (L4_5 _ v1 v2 v3 v4 wv.heap.size (Ext.trans XE (Ext.alloc wv (.cells [.slice none 0 0, .bool false, .slice none 0 0, .slice none 0 0, .int .i64 0].toArray 111))) (p1.out.ext (Ext.alloc wv (.cells [.slice none 0 0, .bool false, .slice none 0 0, .slice none 0 0, .int .i64 0].toArray 111))) (p2.out.ext (Ext.alloc wv (.cells [.slice none 0 0, .bool false, .slice none 0 0, .slice none 0 0, .int .i64 0].toArray 111))) (p3.out.ext (Ext.alloc wv (.cells [.slice none 0 0, .bool false, .slice none 0 0, .slice none 0 0, .int .i64 0].toArray 111))) (p4.out.ext (Ext.alloc wv (.cells [.slice none 0 0, .bool false, .slice none 0 0, .slice none 0 0, .int .i64 0].toArray 111))) (Rt.new wv [.slice none 0 0, .bool false, .slice none 0 0, .slice none 0 0, .int .i64 0] 111) (Below.size XE)) (by kernel_rfl) (by kernel_rfl) (by kernel_rfl)
      have L2_5 : ∀ (wv : World) (v1 v2 : Value) (B5 : Nat), Hid (Ext w2 wv) → Hid (OwnQ 163 0 wv v1 q1) → Hid (OwnX 0 wv v2 [] q1) → Hid (Rt wv B5 5 111) → Hid (w2.heap.size ≤ B5) → wpAnyH Try.prog .any O Q9 SS 3 #[true, true, true, false, false, true, false] (((AA.put (some 10) v1).put (some 11) v2).put (some 2) (.pointer (some ⟨B5, 0, none⟩))) wv := by
        intro wv v1 v2 B5 hX p1 p2 r5 s5
        have hO1 := hO.out
        have hQ1 := hQ.out
        have hA1 := hA.out
        subst hO1
        subst hQ1
        subst hA1
        have XE := hX.out
        try simp only [Act.put, List.getElem_toArray, List.getElem_cons_succ, List.getElem_cons_zero, List.setIfInBounds_toArray, List.set_cons_zero, List.set_cons_succ]
        refine wpAnyH_ready (rs := [3]) (by kernel_rfl) (by simp) ?_
        refine AllReadyH.cons (o := _) rfl (fun K hK => ?_) AllReadyH.nil
        go_simp
        go_at_call 42
        refine (HSA.out _ _ _ (HX2.out.ext XE) p2.out.rd).mono ?_
        rintro e wn ⟨vn, rfl, bn, on⟩
        go_wp2_with fail
        refine hK.out _ _ (KP.out _ (Ext.trans XE bn)) (fun _ => ?_)
        clear hK K
        try simp only [Act.put, List.getElem_toArray, List.getElem_cons_succ, List.getElem_cons_zero, List.setIfInBounds_toArray, List.set_cons_zero, List.set_cons_succ]
        exact wpAnyH_at (L3_5 wn v1 v2 vn B5 (Ext.trans XE bn) (p1.out.ext bn) (p2.out.ext bn) (on) (r5.out.ext bn) s5) (by kernel_rfl) (by kernel_rfl) (by kernel_rfl)
      have L3_ : ∀ (wv : World) (v1 v2 v3 : Value), Hid (Ext w2 wv) → Hid (OwnQ 163 0 wv v1 q1) → Hid (OwnX 0 wv v2 [] q1) → Hid (OwnX 0 wv v3 [((0 : Int), q1)] qm) → wpAnyH Try.prog .any O Q9 SS 3 #[true, true, true, true, false, false, false] (((AA.put (some 10) v1).put (some 11) v2).put (some 12) v3) wv := by
        intro wv v1 v2 v3 hX p1 p2 p3
        have hO1 := hO.out
        have hQ1 := hQ.out
        have hA1 := hA.out
        subst hO1
        subst hQ1
        subst hA1
        have XE := hX.out
        have hS1 := hSS.out
        subst hS1
        have hHeld : (fun w' => w'.cell? ⟨BX, 0, none⟩ = some (.slice a 1 k) ∧ w'.cell? ⟨BX, 1, none⟩ = some (.bool s) ∧ w'.cell? ⟨BX, 2, none⟩ = some (.slice b m d) ∧ w'.cell? ⟨BX, 3, none⟩ = some (.slice b' m' d')) wv := (C2.out.ext XE).c4
        try simp only [Act.put, List.getElem_toArray, List.getElem_cons_succ, List.getElem_cons_zero, List.setIfInBounds_toArray, List.set_cons_zero, List.set_cons_succ]
        obtain ⟨f0, f1, f2, f3, f4, f5, f6, f7, f8, rfl, -, -, OX⟩ := p3.out.op
        refine wpAnyH_take (i := 4) (v := ?_) rfl (by kernel_rfl) (by kernel_rfl) (by kernel_rfl) (fun _ _ _ h => h) (Or.inl ⟨by rfl, fun w0 hSw => ?_⟩) hHeld ?_
        rotate_left
        · (try dsimp only at hSw)
          go_simp
          try with_reducible rfl
        simp only [Act.put, List.getElem_toArray, List.getElem_cons_succ, List.getElem_cons_zero, List.setIfInBounds_toArray, List.set_cons_zero, List.set_cons_succ]
        exact wpAnyH_at (L4_ wv _ _ _ _ hX.out p1.out p2.out p3.out (⟨_, _, _, _, rfl, p3.out⟩)) (by kernel_rfl) (by kernel_rfl) (by kernel_rfl)
      have L1_5 : ∀ (wv : World) (v1 : Value) (B5 : Nat), Hid (Ext w2 wv) → Hid (OwnQ 163 0 wv v1 q1) → Hid (Rt wv B5 5 111) → Hid (w2.heap.size ≤ B5) → wpAnyH Try.prog .any O Q9 SS 4 #[true, true, false, false, false, true, false] ((AA.put (some 10) v1).put (some 2) (.pointer (some ⟨B5, 0, none⟩))) wv := by
        intro wv v1 B5 hX p1 r5 s5
        have hO1 := hO.out
        have hQ1 := hQ.out
        have hA1 := hA.out
        subst hO1
        subst hQ1
        subst hA1
        have XE := hX.out
        try simp only [Act.put, List.getElem_toArray, List.getElem_cons_succ, List.getElem_cons_zero, List.setIfInBounds_toArray, List.set_cons_zero, List.set_cons_succ]
        refine wpAnyH_ready (rs := [2]) (by kernel_rfl) (by simp) ?_
        refine AllReadyH.cons (o := _) rfl (fun K hK => ?_) AllReadyH.nil
        go_simp
        go_at_call 50
        refine (HO.out _ _ _ p1.out).mono ?_
        rintro e wn ⟨vn, rfl, bn, on⟩
        go_wp2_with fail
        refine hK.out _ _ (KP.out _ (Ext.trans XE bn)) (fun _ => ?_)
        clear hK K
        try simp only [Act.put, List.getElem_toArray, List.getElem_cons_succ, List.getElem_cons_zero, List.setIfInBounds_toArray, List.set_cons_zero, List.set_cons_succ]
        exact wpAnyH_at (L2_5 wn v1 vn B5 (Ext.trans XE bn) (p1.out.ext bn) (on) (r5.out.ext bn) s5) (by kernel_rfl) (by kernel_rfl) (by kernel_rfl)
      have L2_ : ∀ (wv : World) (v1 v2 : Value), Hid (Ext w2 wv) → Hid (OwnQ 163 0 wv v1 q1) → Hid (OwnX 0 wv v2 [] q1) → wpAnyH Try.prog .any O Q9 SS 4 #[true, true, true, false, false, false, false] ((AA.put (some 10) v1).put (some 11) v2) wv := by
        intro wv v1 v2 hX p1 p2
        have hO1 := hO.out
        have hQ1 := hQ.out
        have hA1 := hA.out
        subst hO1
        subst hQ1
        subst hA1
        have XE := hX.out
        try simp only [Act.put, List.getElem_toArray, List.getElem_cons_succ, List.getElem_cons_zero, List.setIfInBounds_toArray, List.set_cons_zero, List.set_cons_succ]
        refine wpAnyH_ready (rs := [3, 5]) (by kernel_rfl) (by simp) ?_
        refine AllReadyH.cons (o := _) rfl (fun K hK => ?_) (AllReadyH.cons (o := _) rfl (fun K hK => ?_) AllReadyH.nil)
        · skip
          go_simp
          go_at_call 42
          refine (HSA.out _ _ _ (HX2.out.ext XE) p2.out.rd).mono ?_
          rintro e wn ⟨vn, rfl, bn, on⟩
          go_wp2_with fail
          refine hK.out _ _ (KP.out _ (Ext.trans XE bn)) (fun _ => ?_)
          clear hK K
          try simp only [Act.put, List.getElem_toArray, List.getElem_cons_succ, List.getElem_cons_zero, List.setIfInBounds_toArray, List.set_cons_zero, List.set_cons_succ]
          exact wpAnyH_at (L3_ wn v1 v2 vn (Ext.trans XE bn) (p1.out.ext bn) (p2.out.ext bn) (on)) (by kernel_rfl) (by kernel_rfl) (by kernel_rfl)
        · skip
          go_simp
          refine hK.out _ _ (KP.out _ (Ext.trans XE (Ext.alloc _ _))) (fun _ => ?_)
          clear hK K
          try simp only [Act.put, List.getElem_toArray, List.getElem_cons_succ, List.getElem_cons_zero, List.setIfInBounds_toArray, List.set_cons_zero, List.set_cons_succ]
          exact wpAnyH_at (L2_5 _ v1 v2 wv.heap.size (Ext.trans XE (Ext.alloc wv (.cells [.slice none 0 0, .bool false, .slice none 0 0, .slice none 0 0, .int .i64 0].toArray 111))) (p1.out.ext (Ext.alloc wv (.cells [.slice none 0 0, .bool false, .slice none 0 0, .slice none 0 0, .int .i64 0].toArray 111))) (p2.out.ext (Ext.alloc wv (.cells [.slice none 0 0, .bool false, .slice none 0 0, .slice none 0 0, .int .i64 0].toArray 111))) (Rt.new wv [.slice none 0 0, .bool false, .slice none 0 0, .slice none 0 0, .int .i64 0] 111) (Below.size XE)) (by kernel_rfl) (by kernel_rfl) (by kernel_rfl)
      have L0_5 : ∀ (wv : World) (B5 : Nat), Hid (Ext w2 wv) → Hid (Rt wv B5 5 111) → Hid (w2.heap.size ≤ B5) → wpAnyH Try.prog .any O Q9 SS 5 #[true, false, false, false, false, true, false] (AA.put (some 2) (.pointer (some ⟨B5, 0, none⟩))) wv := by
        intro wv B5 hX r5 s5
        have hO1 := hO.out
        have hQ1 := hQ.out
        have hA1 := hA.out
        subst hO1
        subst hQ1
        subst hA1
        have XE := hX.out
        try simp only [Act.put, List.getElem_toArray, List.getElem_cons_succ, List.getElem_cons_zero, List.setIfInBounds_toArray, List.set_cons_zero, List.set_cons_succ]
        refine wpAnyH_ready (rs := [1]) (by kernel_rfl) (by simp) ?_
        refine AllReadyH.cons (o := _) rfl (fun K hK => ?_) AllReadyH.nil
        go_simp
        go_at_call 44
        refine (HI1.out _).mono ?_
        rintro e wn ⟨vn, rfl, bn, on⟩
        go_wp2_with fail
        refine hK.out _ _ (KP.out _ (Ext.trans XE bn)) (fun _ => ?_)
        clear hK K
        try simp only [Act.put, List.getElem_toArray, List.getElem_cons_succ, List.getElem_cons_zero, List.setIfInBounds_toArray, List.set_cons_zero, List.set_cons_succ]
        exact wpAnyH_at (L1_5 wn vn B5 (Ext.trans XE bn) (on) (r5.out.ext bn) s5) (by kernel_rfl) (by kernel_rfl) (by kernel_rfl)
      have L1_ : ∀ (wv : World) (v1 : Value), Hid (Ext w2 wv) → Hid (OwnQ 163 0 wv v1 q1) → wpAnyH Try.prog .any O Q9 SS 5 #[true, true, false, false, false, false, false] (AA.put (some 10) v1) wv := by
        intro wv v1 hX p1
        have hO1 := hO.out
        have hQ1 := hQ.out
        have hA1 := hA.out
        subst hO1
        subst hQ1
        subst hA1
        have XE := hX.out
        try simp only [Act.put, List.getElem_toArray, List.getElem_cons_succ, List.getElem_cons_zero, List.setIfInBounds_toArray, List.set_cons_zero, List.set_cons_succ]
        refine wpAnyH_ready (rs := [2, 5]) (by kernel_rfl) (by simp) ?_
        refine AllReadyH.cons (o := _) rfl (fun K hK => ?_) (AllReadyH.cons (o := _) rfl (fun K hK => ?_) AllReadyH.nil)
        · skip
          go_simp
          go_at_call 50
          refine (HO.out _ _ _ p1.out).mono ?_
          rintro e wn ⟨vn, rfl, bn, on⟩
          go_wp2_with fail
          refine hK.out _ _ (KP.out _ (Ext.trans XE bn)) (fun _ => ?_)
          clear hK K
          try simp only [Act.put, List.getElem_toArray, List.getElem_cons_succ, List.getElem_cons_zero, List.setIfInBounds_toArray, List.set_cons_zero, List.set_cons_succ]
          exact wpAnyH_at (L2_ wn v1 vn (Ext.trans XE bn) (p1.out.ext bn) (on)) (by kernel_rfl) (by kernel_rfl) (by kernel_rfl)
        · skip
          go_simp
          refine hK.out _ _ (KP.out _ (Ext.trans XE (Ext.alloc _ _))) (fun _ => ?_)
          clear hK K
          try simp only [Act.put, List.getElem_toArray, List.getElem_cons_succ, List.getElem_cons_zero, List.setIfInBounds_toArray, List.set_cons_zero, List.set_cons_succ]
          exact wpAnyH_at (L1_5 _ v1 wv.heap.size (Ext.trans XE (Ext.alloc wv (.cells [.slice none 0 0, .bool false, .slice none 0 0, .slice none 0 0, .int .i64 0].toArray 111))) (p1.out.ext (Ext.alloc wv (.cells [.slice none 0 0, .bool false, .slice none 0 0, .slice none 0 0, .int .i64 0].toArray 111))) (Rt.new wv [.slice none 0 0, .bool false, .slice none 0 0, .slice none 0 0, .int .i64 0] 111) (Below.size XE)) (by kernel_rfl) (by kernel_rfl) (by kernel_rfl)
      have L0_ : ∀ (wv : World), Hid (Ext w2 wv) → wpAnyH Try.prog .any O Q9 SS 6 #[true, false, false, false, false, false, false] AA wv := by
        intro wv hX
        have hO1 := hO.out
        have hQ1 := hQ.out
        have hA1 := hA.out
        subst hO1
        subst hQ1
        subst hA1
        have XE := hX.out
        try simp only [Act.put, List.getElem_toArray, List.getElem_cons_succ, List.getElem_cons_zero, List.setIfInBounds_toArray, List.set_cons_zero, List.set_cons_succ]
        refine wpAnyH_ready (rs := [1, 5]) (by kernel_rfl) (by simp) ?_
        refine AllReadyH.cons (o := _) rfl (fun K hK => ?_) (AllReadyH.cons (o := _) rfl (fun K hK => ?_) AllReadyH.nil)
        · skip
          go_simp
          go_at_call 44
          refine (HI1.out _).mono ?_
          rintro e wn ⟨vn, rfl, bn, on⟩
          go_wp2_with fail
          refine hK.out _ _ (KP.out _ (Ext.trans XE bn)) (fun _ => ?_)
          clear hK K
          try simp only [Act.put, List.getElem_toArray, List.getElem_cons_succ, List.getElem_cons_zero, List.setIfInBounds_toArray, List.set_cons_zero, List.set_cons_succ]
          exact wpAnyH_at (L1_ wn vn (Ext.trans XE bn) (on)) (by kernel_rfl) (by kernel_rfl) (by kernel_rfl)
        · skip
          go_simp
          refine hK.out _ _ (KP.out _ (Ext.trans XE (Ext.alloc _ _))) (fun _ => ?_)
          clear hK K
          try simp only [Act.put, List.getElem_toArray, List.getElem_cons_succ, List.getElem_cons_zero, List.setIfInBounds_toArray, List.set_cons_zero, List.set_cons_succ]
          exact wpAnyH_at (L0_5 _ wv.heap.size (Ext.trans XE (Ext.alloc wv (.cells [.slice none 0 0, .bool false, .slice none 0 0, .slice none 0 0, .int .i64 0].toArray 111))) (Rt.new wv [.slice none 0 0, .bool false, .slice none 0 0, .slice none 0 0, .int .i64 0] 111) (Below.size XE)) (by kernel_rfl) (by kernel_rfl) (by kernel_rfl)
      have hO1 := hO.out
      have hQ1 := hQ.out
      have hA1 := hA.out
      subst hO1
      subst hQ1
      subst hA1
      have hS1 := hSS.out
      subst hS1
      exact wpAnyH_at (L0_ w2.drew (drew_ext w2)) (by kernel_rfl) (by kernel_rfl) (by kernel_rfl)
  case rest =>
    as_aux_lemma =>
      obtain ⟨BA, x0, x1, x2, x3, rfl, b4, CA, OA⟩ := hcut
      generalize wc = w4 at *
      have C4 := Lib.hid (C2.out.ext b4)
      have HX4 := Lib.hid (HX2.out.ext b4)
      have SZ4 : Hid (BX < w4.heap.size) := C4.out.lt
      have b04 := Ext.trans b1 (Ext.trans b2 b4)
      clear C2 HX2 SZ2
      go_upto_region 3 with (fail)
      go_cut [3] (fun s2 wx => ∃ (B : Nat) (x0 x1 x2 x3 : Value), s2 = .pointer (some ⟨B, 0, none⟩) ∧ Ext w4 wx ∧ Hid (Bx wx B [x0, x1, x2, x3, .int .i64 1]) ∧ Hid (OwnA wx (.agg #[x0, x1, x2, x3, .int .i64 1]) (([((0 : Int), qm)], q2), 1)))
      case first =>
        as_aux_lemma =>
          refine wp_region_noPanic ?_
          refine wp_region_held_drew (S := fun w' => w'.cell? ⟨BX, 0, none⟩ = some (.slice a 1 k) ∧ w'.cell? ⟨BX, 1, none⟩ = some (.bool s) ∧ w'.cell? ⟨BX, 2, none⟩ = some (.slice b m d) ∧ w'.cell? ⟨BX, 3, none⟩ = some (.slice b' m' d')) (by kernel_rfl) ((C4.out.ext (drew_ext w4)).c4) (fun hHeld => ?_)
          refine wpAnyH_take (i := 2) (v := ?_) rfl (by kernel_rfl) (by kernel_rfl) (by kernel_rfl) (fun _ _ _ h => h) (Or.inl ⟨by rfl, fun w0 hSw => ?_⟩) hHeld ?_
          rotate_left
          · (try dsimp only at hSw)
            go_simp
            try with_reducible rfl
          simp only [Act.put, List.getElem_toArray, List.getElem_cons_succ, List.getElem_cons_zero, List.setIfInBounds_toArray, List.set_cons_zero, List.set_cons_succ]
          refine anyH_cap fun O Q9 AA hO hQ hA => ?_
          obtain ⟨SS, hSS⟩ : ∃ SS : World → Prop, Hid (SS = fun w' => w'.cell? ⟨BX, 0, none⟩ = some (.slice a 1 k) ∧ w'.cell? ⟨BX, 1, none⟩ = some (.bool s) ∧ w'.cell? ⟨BX, 2, none⟩ = some (.slice b m d) ∧ w'.cell? ⟨BX, 3, none⟩ = some (.slice b' m' d')) := ⟨_, rfl⟩
          have KP : Hid (∀ wv, Ext w4 wv → SS wv) := fun wv XE => by rw [hSS.out]; exact (C4.out.ext XE).c4
          have L4_5 : ∀ (wv : World) (v0 v1 v3 v4 : Value) (B5 : Nat), Hid (Ext w4 wv) → Hid (OwnQ 163 0 wv v0 q2) → Hid (OwnX 0 wv v1 [] q2) → Hid (OwnX 0 wv v3 [((0 : Int), qm)] q2) → Hid (OwnA wv v4 (([((0 : Int), qm)], q2), 1)) → Hid (Rt wv B5 5 111) → Hid (w4.heap.size ≤ B5) → wpAnyH Try.prog .any O Q9 SS 1 #[true, true, true, true, true, true, false] (((((AA.put (some 14) v0).put (some 15) v1).put (some 17) v3).put (some 18) v4).put (some 3) (.pointer (some ⟨B5, 0, none⟩))) wv := by
            intro wv v0 v1 v3 v4 B5 hX p0 p1 p3 p4 r5 s5
            have hO1 := hO.out
            have hQ1 := hQ.out
            have hA1 := hA.out
            subst hO1
            subst hQ1
            subst hA1
            have XE := hX.out
            have hS1 := hSS.out
            subst hS1
            have hHeld : (fun w' => w'.cell? ⟨BX, 0, none⟩ = some (.slice a 1 k) ∧ w'.cell? ⟨BX, 1, none⟩ = some (.bool s) ∧ w'.cell? ⟨BX, 2, none⟩ = some (.slice b m d) ∧ w'.cell? ⟨BX, 3, none⟩ = some (.slice b' m' d')) wv := (C4.out.ext XE).c4
            try simp only [Act.put, List.getElem_toArray, List.getElem_cons_succ, List.getElem_cons_zero, List.setIfInBounds_toArray, List.set_cons_zero, List.set_cons_succ]
            have k0_5 : BX ≠ B5 := by have h1 := s5.out; have hz0 := SZ4.out; omega
            obtain ⟨_, _, _, _, _, i5_0, i5_1, i5_2, i5_3, i5_4, f5_0, f5_1, f5_2, f5_3, f5_4⟩ := r5.out.c5
            obtain ⟨g0, g1, g2, g3, g4, g5, g6, g7, g8, rfl, -⟩ := p4.out.op
            have OA := p4.out
            refine wpAnyH_ready (rs := [6]) (by kernel_rfl) (by simp) ?_
            refine AllReadyH.cons (o := _) rfl (fun K hK => ?_) AllReadyH.nil
            go_simp
            refine hK.out _ _ (((C4.out.ext XE).putL k0_5 0 [_, _, _, _, _]).c4) (fun hHeld => ?_)
            clear hK K
            try simp only [Act.put, List.getElem_toArray, List.getElem_cons_succ, List.getElem_cons_zero, List.setIfInBounds_toArray, List.set_cons_zero, List.set_cons_succ]
            refine wpAnyH_done (by kernel_rfl) ?_ _
            refine NoPanic.normal ?_
            go_wp2_with fail
            go_meet
            obtain ⟨W, hW, hM1, hM2, hM3⟩ := meet5 r5.out hX.out s5.out OA
            simp only [List.length_cons, List.length_nil, Nat.zero_add] at hW
            rw [← hW]
            exact ⟨B5, _, _, _, _, rfl, hM1, hM2, hM3⟩
          have L3_5 : ∀ (wv : World) (v0 v1 v3 : Value) (B5 : Nat), Hid (Ext w4 wv) → Hid (OwnQ 163 0 wv v0 q2) → Hid (OwnX 0 wv v1 [] q2) → Hid (OwnX 0 wv v3 [((0 : Int), qm)] q2) → Hid (Rt wv B5 5 111) → Hid (w4.heap.size ≤ B5) → wpAnyH Try.prog .any O Q9 SS 2 #[true, true, true, true, false, true, false] ((((AA.put (some 14) v0).put (some 15) v1).put (some 17) v3).put (some 3) (.pointer (some ⟨B5, 0, none⟩))) wv := by
            intro wv v0 v1 v3 B5 hX p0 p1 p3 r5 s5
            have hO1 := hO.out
            have hQ1 := hQ.out
            have hA1 := hA.out
            subst hO1
            subst hQ1
            subst hA1
            have XE := hX.out
            have hS1 := hSS.out
            subst hS1
            have hHeld : (fun w' => w'.cell? ⟨BX, 0, none⟩ = some (.slice a 1 k) ∧ w'.cell? ⟨BX, 1, none⟩ = some (.bool s) ∧ w'.cell? ⟨BX, 2, none⟩ = some (.slice b m d) ∧ w'.cell? ⟨BX, 3, none⟩ = some (.slice b' m' d')) wv := (C4.out.ext XE).c4
            try simp only [Act.put, List.getElem_toArray, List.getElem_cons_succ, List.getElem_cons_zero, List.setIfInBounds_toArray, List.set_cons_zero, List.set_cons_succ]
            obtain ⟨f0, f1, f2, f3, f4, f5, f6, f7, f8, rfl, -, -, OX⟩ := p3.out.op
            refine wpAnyH_take (i := 4) (v := ?_) rfl (by kernel_rfl) (by kernel_rfl) (by kernel_rfl) (fun _ _ _ h => h) (Or.inl ⟨by rfl, fun w0 hSw => ?_⟩) hHeld ?_
            rotate_left
            · (try dsimp only at hSw)
              go_simp
              try with_reducible rfl
            simp only [Act.put, List.getElem_toArray, List.getElem_cons_succ, List.getElem_cons_zero, List.setIfInBounds_toArray, List.set_cons_zero, List.set_cons_succ]
            exact wpAnyH_at (L4_5 wv _ _ _ _ B5 hX.out p0.out p1.out p3.out (⟨_, _, _, _, rfl, p3.out⟩) r5.out s5.out) (by kernel_rfl) (by kernel_rfl) (by kernel_rfl)
          have L4_ : ∀ (wv : World) (v0 v1 v3 v4 : Value), Hid (Ext w4 wv) → Hid (OwnQ 163 0 wv v0 q2) → Hid (OwnX 0 wv v1 [] q2) → Hid (OwnX 0 wv v3 [((0 : Int), qm)] q2) → Hid (OwnA wv v4 (([((0 : Int), qm)], q2), 1)) → wpAnyH Try.prog .any O Q9 SS 2 #[true, true, true, true, true, false, false] ((((AA.put (some 14) v0).put (some 15) v1).put (some 17) v3).put (some 18) v4) wv := by
            intro wv v0 v1 v3 v4 hX p0 p1 p3 p4
            have hO1 := hO.out
            have hQ1 := hQ.out
            have hA1 := hA.out
            subst hO1
            subst hQ1
            subst hA1
            have XE := hX.out
            try simp only [Act.put, List.getElem_toArray, List.getElem_cons_succ, List.getElem_cons_zero, List.setIfInBounds_toArray, List.set_cons_zero, List.set_cons_succ]
            refine wpAnyH_ready (rs := [5]) (by kernel_rfl) (by simp) ?_
            refine AllReadyH.cons (o := _) rfl (fun K hK => ?_) AllReadyH.nil
            go_simp
            refine hK.out _ _ (KP.out _ (Ext.trans XE (Ext.alloc _ _))) (fun _ => ?_)
            clear hK K
            try simp only [Act.put, List.getElem_toArray, List.getElem_cons_succ, List.getElem_cons_zero, List.setIfInBounds_toArray, List.set_cons_zero, List.set_cons_succ]
            exact wpAnyH_at (L4_5 _ v0 v1 v3 v4 wv.heap.size (Ext.trans XE (Ext.alloc wv (.cells [.slice none 0 0, .bool false, .slice none 0 0, .slice none 0 0, .int .i64 0].toArray 111))) (p0.out.ext (Ext.alloc wv (.cells [.slice none 0 0, .bool false, .slice none 0 0, .slice none 0 0, .int .i64 0].toArray 111))) (p1.out.ext (Ext.alloc wv (.cells [.slice none 0 0, .bool false, .slice none 0 0, .slice none 0 0, .int .i64 0].toArray 111))) (p3.out.ext (Ext.alloc wv (.cells [.slice none 0 0, .bool false, .slice none 0 0, .slice none 0 0, .int .i64 0].toArray 111))) (p4.out.ext (Ext.alloc wv (.cells [.slice none 0 0, .bool false, .slice none 0 0, .slice none 0 0, .int .i64 0].toArray 111))) (Rt.new wv [.slice none 0 0, .bool false, .slice none 0 0, .slice none 0 0, .int .i64 0] 111) (Below.size XE)) (by kernel_rfl) (by kernel_rfl) (by kernel_rfl)
          have L2_5 : ∀ (wv : World) (v0 v1 : Value) (B5 : Nat), Hid (Ext w4 wv) → Hid (OwnQ 163 0 wv v0 q2) → Hid (OwnX 0 wv v1 [] q2) → Hid (Rt wv B5 5 111) → Hid (w4.heap.size ≤ B5) → wpAnyH Try.prog .any O Q9 SS 3 #[true, true, true, false, false, true, false] (((AA.put (some 14) v0).put (some 15) v1).put (some 3) (.pointer (some ⟨B5, 0, none⟩))) wv := by
            intro wv v0 v1 B5 hX p0 p1 r5 s5
            have hO1 := hO.out
            have hQ1 := hQ.out
            have hA1 := hA.out
            subst hO1
            subst hQ1
            subst hA1
            have XE := hX.out
            try simp only [Act.put, List.getElem_toArray, List.getElem_cons_succ, List.getElem_cons_zero, List.setIfInBounds_toArray, List.set_cons_zero, List.set_cons_succ]
            refine wpAnyH_ready (rs := [3]) (by kernel_rfl) (by simp) ?_
            refine AllReadyH.cons (o := _) rfl (fun K hK => ?_) AllReadyH.nil
            go_simp
            go_at_call 42
            refine (HSB.out _ _ _ p1.out.rd (HX4.out.ext XE)).mono ?_
            rintro e wn ⟨vn, rfl, bn, on⟩
            go_wp2_with fail
            refine hK.out _ _ (KP.out _ (Ext.trans XE bn)) (fun _ => ?_)
            clear hK K
            try simp only [Act.put, List.getElem_toArray, List.getElem_cons_succ, List.getElem_cons_zero, List.setIfInBounds_toArray, List.set_cons_zero, List.set_cons_succ]
            exact wpAnyH_at (L3_5 wn v0 v1 vn B5 (Ext.trans XE bn) (p0.out.ext bn) (p1.out.ext bn) (on) (r5.out.ext bn) s5) (by kernel_rfl) (by kernel_rfl) (by kernel_rfl)
          have L3_ : ∀ (wv : World) (v0 v1 v3 : Value), Hid (Ext w4 wv) → Hid (OwnQ 163 0 wv v0 q2) → Hid (OwnX 0 wv v1 [] q2) → Hid (OwnX 0 wv v3 [((0 : Int), qm)] q2) → wpAnyH Try.prog .any O Q9 SS 3 #[true, true, true, true, false, false, false] (((AA.put (some 14) v0).put (some 15) v1).put (some 17) v3) wv := by
            intro wv v0 v1 v3 hX p0 p1 p3
            have hO1 := hO.out
            have hQ1 := hQ.out
            have hA1 := hA.out
            subst hO1
            subst hQ1
            subst hA1
            have XE := hX.out
            have hS1 := hSS.out
            subst hS1
            have hHeld : (fun w' => w'.cell? ⟨BX, 0, none⟩ = some (.slice a 1 k) ∧ w'.cell? ⟨BX, 1, none⟩ = some (.bool s) ∧ w'.cell? ⟨BX, 2, none⟩ = some (.slice b m d) ∧ w'.cell? ⟨BX, 3, none⟩ = some (.slice b' m' d')) wv := (C4.out.ext XE).c4
            try simp only [Act.put, List.getElem_toArray, List.getElem_cons_succ, List.getElem_cons_zero, List.setIfInBounds_toArray, List.set_cons_zero, List.set_cons_succ]
            obtain ⟨f0, f1, f2, f3, f4, f5, f6, f7, f8, rfl, -, -, OX⟩ := p3.out.op
            refine wpAnyH_take (i := 4) (v := ?_) rfl (by kernel_rfl) (by kernel_rfl) (by kernel_rfl) (fun _ _ _ h => h) (Or.inl ⟨by rfl, fun w0 hSw => ?_⟩) hHeld ?_
            rotate_left
            · (try dsimp only at hSw)
              go_simp
              try with_reducible rfl
            simp only [Act.put, List.getElem_toArray, List.getElem_cons_succ, List.getElem_cons_zero, List.setIfInBounds_toArray, List.set_cons_zero, List.set_cons_succ]
            exact wpAnyH_at (L4_ wv _ _ _ _ hX.out p0.out p1.out p3.out (⟨_, _, _, _, rfl, p3.out⟩)) (by kernel_rfl) (by kernel_rfl) (by kernel_rfl)
          have L1_5 : ∀ (wv : World) (v0 : Value) (B5 : Nat), Hid (Ext w4 wv) → Hid (OwnQ 163 0 wv v0 q2) → Hid (Rt wv B5 5 111) → Hid (w4.heap.size ≤ B5) → wpAnyH Try.prog .any O Q9 SS 4 #[true, false, true, false, false, true, false] ((AA.put (some 14) v0).put (some 3) (.pointer (some ⟨B5, 0, none⟩))) wv := by
            intro wv v0 B5 hX p0 r5 s5
            have hO1 := hO.out
            have hQ1 := hQ.out
            have hA1 := hA.out
            subst hO1
            subst hQ1
            subst hA1
            have XE := hX.out
            try simp only [Act.put, List.getElem_toArray, List.getElem_cons_succ, List.getElem_cons_zero, List.setIfInBounds_toArray, List.set_cons_zero, List.set_cons_succ]
            refine wpAnyH_ready (rs := [1]) (by kernel_rfl) (by simp) ?_
            refine AllReadyH.cons (o := _) rfl (fun K hK => ?_) AllReadyH.nil
            go_simp
            go_at_call 50
            refine (HO.out _ _ _ p0.out).mono ?_
            rintro e wn ⟨vn, rfl, bn, on⟩
            go_wp2_with fail
            refine hK.out _ _ (KP.out _ (Ext.trans XE bn)) (fun _ => ?_)
            clear hK K
            try simp only [Act.put, List.getElem_toArray, List.getElem_cons_succ, List.getElem_cons_zero, List.setIfInBounds_toArray, List.set_cons_zero, List.set_cons_succ]
            exact wpAnyH_at (L2_5 wn v0 vn B5 (Ext.trans XE bn) (p0.out.ext bn) (on) (r5.out.ext bn) s5) (by kernel_rfl) (by kernel_rfl) (by kernel_rfl)
          have L2_ : ∀ (wv : World) (v0 v1 : Value), Hid (Ext w4 wv) → Hid (OwnQ 163 0 wv v0 q2) → Hid (OwnX 0 wv v1 [] q2) → wpAnyH Try.prog .any O Q9 SS 4 #[true, true, true, false, false, false, false] ((AA.put (some 14) v0).put (some 15) v1) wv := by
            intro wv v0 v1 hX p0 p1
            have hO1 := hO.out
            have hQ1 := hQ.out
            have hA1 := hA.out
            subst hO1
            subst hQ1
            subst hA1
            have XE := hX.out
            try simp only [Act.put, List.getElem_toArray, List.getElem_cons_succ, List.getElem_cons_zero, List.setIfInBounds_toArray, List.set_cons_zero, List.set_cons_succ]
            refine wpAnyH_ready (rs := [3, 5]) (by kernel_rfl) (by simp) ?_
            refine AllReadyH.cons (o := _) rfl (fun K hK => ?_) (AllReadyH.cons (o := _) rfl (fun K hK => ?_) AllReadyH.nil)
            · skip
              go_simp
              go_at_call 42
              refine (HSB.out _ _ _ p1.out.rd (HX4.out.ext XE)).mono ?_
              rintro e wn ⟨vn, rfl, bn, on⟩
              go_wp2_with fail
              refine hK.out _ _ (KP.out _ (Ext.trans XE bn)) (fun _ => ?_)
              clear hK K
              try simp only [Act.put, List.getElem_toArray, List.getElem_cons_succ, List.getElem_cons_zero, List.setIfInBounds_toArray, List.set_cons_zero, List.set_cons_succ]
              exact wpAnyH_at (L3_ wn v0 v1 vn (Ext.trans XE bn) (p0.out.ext bn) (p1.out.ext bn) (on)) (by kernel_rfl) (by kernel_rfl) (by kernel_rfl)
            · skip
              go_simp
              refine hK.out _ _ (KP.out _ (Ext.trans XE (Ext.alloc _ _))) (fun _ => ?_)
              clear hK K
              try simp only [Act.put, List.getElem_toArray, List.getElem_cons_succ, List.getElem_cons_zero, List.setIfInBounds_toArray, List.set_cons_zero, List.set_cons_succ]
              exact wpAnyH_at (L2_5 _ v0 v1 wv.heap.size (Ext.trans XE (Ext.alloc wv (.cells [.slice none 0 0, .bool false, .slice none 0 0, .slice none 0 0, .int .i64 0].toArray 111))) (p0.out.ext (Ext.alloc wv (.cells [.slice none 0 0, .bool false, .slice none 0 0, .slice none 0 0, .int .i64 0].toArray 111))) (p1.out.ext (Ext.alloc wv (.cells [.slice none 0 0, .bool false, .slice none 0 0, .slice none 0 0, .int .i64 0].toArray 111))) (Rt.new wv [.slice none 0 0, .bool false, .slice none 0 0, .slice none 0 0, .int .i64 0] 111) (Below.size XE)) (by kernel_rfl) (by kernel_rfl) (by kernel_rfl)
          have L0_5 : ∀ (wv : World) (B5 : Nat), Hid (Ext w4 wv) → Hid (Rt wv B5 5 111) → Hid (w4.heap.size ≤ B5) → wpAnyH Try.prog .any O Q9 SS 5 #[false, false, true, false, false, true, false] (AA.put (some 3) (.pointer (some ⟨B5, 0, none⟩))) wv := by
            intro wv B5 hX r5 s5
            have hO1 := hO.out
            have hQ1 := hQ.out
            have hA1 := hA.out
            subst hO1
            subst hQ1
            subst hA1
            have XE := hX.out
            try simp only [Act.put, List.getElem_toArray, List.getElem_cons_succ, List.getElem_cons_zero, List.setIfInBounds_toArray, List.set_cons_zero, List.set_cons_succ]
            refine wpAnyH_ready (rs := [0]) (by kernel_rfl) (by simp) ?_
            refine AllReadyH.cons (o := _) rfl (fun K hK => ?_) AllReadyH.nil
            go_simp
            go_at_call 44
            refine (HI2.out _).mono ?_
            rintro e wn ⟨vn, rfl, bn, on⟩
            go_wp2_with fail
            refine hK.out _ _ (KP.out _ (Ext.trans XE bn)) (fun _ => ?_)
            clear hK K
            try simp only [Act.put, List.getElem_toArray, List.getElem_cons_succ, List.getElem_cons_zero, List.setIfInBounds_toArray, List.set_cons_zero, List.set_cons_succ]
            exact wpAnyH_at (L1_5 wn vn B5 (Ext.trans XE bn) (on) (r5.out.ext bn) s5) (by kernel_rfl) (by kernel_rfl) (by kernel_rfl)
          have L1_ : ∀ (wv : World) (v0 : Value), Hid (Ext w4 wv) → Hid (OwnQ 163 0 wv v0 q2) → wpAnyH Try.prog .any O Q9 SS 5 #[true, false, true, false, false, false, false] (AA.put (some 14) v0) wv := by
            intro wv v0 hX p0
            have hO1 := hO.out
            have hQ1 := hQ.out
            have hA1 := hA.out
            subst hO1
            subst hQ1
            subst hA1
            have XE := hX.out
            try simp only [Act.put, List.getElem_toArray, List.getElem_cons_succ, List.getElem_cons_zero, List.setIfInBounds_toArray, List.set_cons_zero, List.set_cons_succ]
            refine wpAnyH_ready (rs := [1, 5]) (by kernel_rfl) (by simp) ?_
            refine AllReadyH.cons (o := _) rfl (fun K hK => ?_) (AllReadyH.cons (o := _) rfl (fun K hK => ?_) AllReadyH.nil)
            · skip
              go_simp
              go_at_call 50
              refine (HO.out _ _ _ p0.out).mono ?_
              rintro e wn ⟨vn, rfl, bn, on⟩
              go_wp2_with fail
              refine hK.out _ _ (KP.out _ (Ext.trans XE bn)) (fun _ => ?_)
              clear hK K
              try simp only [Act.put, List.getElem_toArray, List.getElem_cons_succ, List.getElem_cons_zero, List.setIfInBounds_toArray, List.set_cons_zero, List.set_cons_succ]
              exact wpAnyH_at (L2_ wn v0 vn (Ext.trans XE bn) (p0.out.ext bn) (on)) (by kernel_rfl) (by kernel_rfl) (by kernel_rfl)
            · skip
              go_simp
              refine hK.out _ _ (KP.out _ (Ext.trans XE (Ext.alloc _ _))) (fun _ => ?_)
              clear hK K
              try simp only [Act.put, List.getElem_toArray, List.getElem_cons_succ, List.getElem_cons_zero, List.setIfInBounds_toArray, List.set_cons_zero, List.set_cons_succ]
              exact wpAnyH_at (L1_5 _ v0 wv.heap.size (Ext.trans XE (Ext.alloc wv (.cells [.slice none 0 0, .bool false, .slice none 0 0, .slice none 0 0, .int .i64 0].toArray 111))) (p0.out.ext (Ext.alloc wv (.cells [.slice none 0 0, .bool false, .slice none 0 0, .slice none 0 0, .int .i64 0].toArray 111))) (Rt.new wv [.slice none 0 0, .bool false, .slice none 0 0, .slice none 0 0, .int .i64 0] 111) (Below.size XE)) (by kernel_rfl) (by kernel_rfl) (by kernel_rfl)
          have L0_ : ∀ (wv : World), Hid (Ext w4 wv) → wpAnyH Try.prog .any O Q9 SS 6 #[false, false, true, false, false, false, false] AA wv := by
            intro wv hX
            have hO1 := hO.out
            have hQ1 := hQ.out
            have hA1 := hA.out
            subst hO1
            subst hQ1
            subst hA1
            have XE := hX.out
            try simp only [Act.put, List.getElem_toArray, List.getElem_cons_succ, List.getElem_cons_zero, List.setIfInBounds_toArray, List.set_cons_zero, List.set_cons_succ]
            refine wpAnyH_ready (rs := [0, 5]) (by kernel_rfl) (by simp) ?_
            refine AllReadyH.cons (o := _) rfl (fun K hK => ?_) (AllReadyH.cons (o := _) rfl (fun K hK => ?_) AllReadyH.nil)
            · skip
              go_simp
              go_at_call 44
              refine (HI2.out _).mono ?_
              rintro e wn ⟨vn, rfl, bn, on⟩
              go_wp2_with fail
              refine hK.out _ _ (KP.out _ (Ext.trans XE bn)) (fun _ => ?_)
              clear hK K
              try simp only [Act.put, List.getElem_toArray, List.getElem_cons_succ, List.getElem_cons_zero, List.setIfInBounds_toArray, List.set_cons_zero, List.set_cons_succ]
              exact wpAnyH_at (L1_ wn vn (Ext.trans XE bn) (on)) (by kernel_rfl) (by kernel_rfl) (by kernel_rfl)
            · skip
              go_simp
              refine hK.out _ _ (KP.out _ (Ext.trans XE (Ext.alloc _ _))) (fun _ => ?_)
              clear hK K
              try simp only [Act.put, List.getElem_toArray, List.getElem_cons_succ, List.getElem_cons_zero, List.setIfInBounds_toArray, List.set_cons_zero, List.set_cons_succ]
              exact wpAnyH_at (L0_5 _ wv.heap.size (Ext.trans XE (Ext.alloc wv (.cells [.slice none 0 0, .bool false, .slice none 0 0, .slice none 0 0, .int .i64 0].toArray 111))) (Rt.new wv [.slice none 0 0, .bool false, .slice none 0 0, .slice none 0 0, .int .i64 0] 111) (Below.size XE)) (by kernel_rfl) (by kernel_rfl) (by kernel_rfl)
          have hO1 := hO.out
          have hQ1 := hQ.out
          have hA1 := hA.out
          subst hO1
          subst hQ1
          subst hA1
          have hS1 := hSS.out
          subst hS1
          exact wpAnyH_at (L0_ w4.drew (drew_ext w4)) (by kernel_rfl) (by kernel_rfl) (by kernel_rfl)
      case rest =>
        as_aux_lemma =>
          obtain ⟨BB, y0, y1, y2, y3, rfl, b5, CB5, OB5⟩ := hcut
          generalize wc = w5 at *
          have CA5 := Lib.hid (CA.out.ext b5)
          have OA5 := Lib.hid (OwnAt.ext OA.out b5)
          have b05 := Ext.trans b04 b5
          clear CA OA C4 HX4 SZ4
          go_upto_region 4 with (fail)
          go_cut [4, 5] (fun s4 s5 wx => s4 = .bool true ∧ s5 = .int .i64 0 ∧ Ext w5 wx)
          case first =>
            as_aux_lemma =>
              refine wp_region_noPanic ?_
              refine wp_region_held_drew (S := fun w' => (w'.cell? ⟨BA, 0, none⟩ = some (x0) ∧ w'.cell? ⟨BA, 1, none⟩ = some (x1) ∧ w'.cell? ⟨BA, 2, none⟩ = some (x2) ∧ w'.cell? ⟨BA, 3, none⟩ = some (x3) ∧ w'.cell? ⟨BA, 4, none⟩ = some (.int .i64 1)) ∧ (w'.cell? ⟨BB, 0, none⟩ = some (y0) ∧ w'.cell? ⟨BB, 1, none⟩ = some (y1) ∧ w'.cell? ⟨BB, 2, none⟩ = some (y2) ∧ w'.cell? ⟨BB, 3, none⟩ = some (y3) ∧ w'.cell? ⟨BB, 4, none⟩ = some (.int .i64 1))) (by kernel_rfl) (⟨(CA5.out.ext (drew_ext w5)).c5, (CB5.out.ext (drew_ext w5)).c5⟩) (fun hHeld => ?_)
              refine wpAnyH_take (i := 0) (v := ?_) rfl (by kernel_rfl) (by kernel_rfl) (by kernel_rfl) (fun _ _ _ h => h) (Or.inl ⟨by rfl, fun w0 hSw => ?_⟩) hHeld ?_
              rotate_left
              · (try dsimp only at hSw)
                go_simp
                try with_reducible rfl
              simp only [Act.put, List.getElem_toArray, List.getElem_cons_succ, List.getElem_cons_zero, List.setIfInBounds_toArray, List.set_cons_zero, List.set_cons_succ]
              refine wpAnyH_take (i := 1) (v := ?_) rfl (by kernel_rfl) (by kernel_rfl) (by kernel_rfl) (fun _ _ _ h => h) (Or.inl ⟨by rfl, fun w0 hSw => ?_⟩) hHeld ?_
              rotate_left
              · (try dsimp only at hSw)
                go_simp
                try with_reducible rfl
              simp only [Act.put, List.getElem_toArray, List.getElem_cons_succ, List.getElem_cons_zero, List.setIfInBounds_toArray, List.set_cons_zero, List.set_cons_succ]
              refine anyH_cap fun O Q9 AA hO hQ hA => ?_
              obtain ⟨SS, hSS⟩ : ∃ SS : World → Prop, Hid (SS = fun w' => (w'.cell? ⟨BA, 0, none⟩ = some (x0) ∧ w'.cell? ⟨BA, 1, none⟩ = some (x1) ∧ w'.cell? ⟨BA, 2, none⟩ = some (x2) ∧ w'.cell? ⟨BA, 3, none⟩ = some (x3) ∧ w'.cell? ⟨BA, 4, none⟩ = some (.int .i64 1)) ∧ (w'.cell? ⟨BB, 0, none⟩ = some (y0) ∧ w'.cell? ⟨BB, 1, none⟩ = some (y1) ∧ w'.cell? ⟨BB, 2, none⟩ = some (y2) ∧ w'.cell? ⟨BB, 3, none⟩ = some (y3) ∧ w'.cell? ⟨BB, 4, none⟩ = some (.int .i64 1))) := ⟨_, rfl⟩
              have KP : Hid (∀ wv, Ext w5 wv → SS wv) := fun wv XE => by rw [hSS.out]; exact ⟨(CA5.out.ext XE).c5, (CB5.out.ext XE).c5⟩
              have L3_2_5 : ∀ (wv : World) (v3 v4 v6 v2 v5 : Value), Hid (Ext w5 wv) → Hid (OwnQ 163 0 wv v3 q1) → Hid (OwnQ 163 0 wv v4 q1) → Hid (Vl (.tuple #[.bool true, .int .i64 0]) wv v6) → Hid (L2A [(([((0 : Int), q1)], qm), 1), (([((0 : Int), qm)], q2), 1)] wv v2) → Hid (L2Q [q1, q1] wv v5) → wpAnyH Try.prog .any O Q9 SS 5 #[true, true, true, true, true, true, true, false, false, false, false, false] (((((AA.put (some 22) v2).put (some 23) v3).put (some 24) v4).put (some 25) v5).put (some 26) v6) wv := by
                intro wv v3 v4 v6 v2 v5 hX p3 p4 p6 p2 p5
                have hO1 := hO.out
                have hQ1 := hQ.out
                have hA1 := hA.out
                subst hO1
                subst hQ1
                subst hA1
                have XE := hX.out
                have hS1 := hSS.out
                subst hS1
                have hHeld : (fun w' => (w'.cell? ⟨BA, 0, none⟩ = some (x0) ∧ w'.cell? ⟨BA, 1, none⟩ = some (x1) ∧ w'.cell? ⟨BA, 2, none⟩ = some (x2) ∧ w'.cell? ⟨BA, 3, none⟩ = some (x3) ∧ w'.cell? ⟨BA, 4, none⟩ = some (.int .i64 1)) ∧ (w'.cell? ⟨BB, 0, none⟩ = some (y0) ∧ w'.cell? ⟨BB, 1, none⟩ = some (y1) ∧ w'.cell? ⟨BB, 2, none⟩ = some (y2) ∧ w'.cell? ⟨BB, 3, none⟩ = some (y3) ∧ w'.cell? ⟨BB, 4, none⟩ = some (.int .i64 1))) wv := ⟨(CA5.out.ext XE).c5, (CB5.out.ext XE).c5⟩
                try simp only [Act.put, List.getElem_toArray, List.getElem_cons_succ, List.getElem_cons_zero, List.setIfInBounds_toArray, List.set_cons_zero, List.set_cons_succ]
                obtain rfl : v6 = _ := p6.out
                refine wpAnyH_take (i := 7) (v := ?_) rfl (by kernel_rfl) (by kernel_rfl) (by kernel_rfl) (fun _ _ _ h => h) (Or.inl ⟨by rfl, fun w0 hSw => ?_⟩) hHeld ?_
                rotate_left
                · (try dsimp only at hSw)
                  go_simp
                  try with_reducible rfl
                simp only [Act.put, List.getElem_toArray, List.getElem_cons_succ, List.getElem_cons_zero, List.setIfInBounds_toArray, List.set_cons_zero, List.set_cons_succ]
                refine wpAnyH_take (i := 8) (v := ?_) rfl (by kernel_rfl) (by kernel_rfl) (by kernel_rfl) (fun _ _ _ h => h) (Or.inl ⟨by rfl, fun w0 hSw => ?_⟩) hHeld ?_
                rotate_left
                · (try dsimp only at hSw)
                  go_simp
                  try with_reducible rfl
                simp only [Act.put, List.getElem_toArray, List.getElem_cons_succ, List.getElem_cons_zero, List.setIfInBounds_toArray, List.set_cons_zero, List.set_cons_succ]
                refine wpAnyH_take (i := 9) (v := ?_) rfl (by kernel_rfl) (by kernel_rfl) (by kernel_rfl) (fun _ _ _ h => h) (Or.inl ⟨by rfl, fun w0 hSw => ?_⟩) hHeld ?_
                rotate_left
                · (try dsimp only at hSw)
                  go_simp
                  try with_reducible rfl
                simp only [Act.put, List.getElem_toArray, List.getElem_cons_succ, List.getElem_cons_zero, List.setIfInBounds_toArray, List.set_cons_zero, List.set_cons_succ]
                refine wpAnyH_take (i := 10) (v := ?_) rfl (by kernel_rfl) (by kernel_rfl) (by kernel_rfl) (fun _ _ _ h => h) (Or.inl ⟨by rfl, fun w0 hSw => ?_⟩) hHeld ?_
                rotate_left
                · (try dsimp only at hSw)
                  go_simp
                  try with_reducible rfl
                simp only [Act.put, List.getElem_toArray, List.getElem_cons_succ, List.getElem_cons_zero, List.setIfInBounds_toArray, List.set_cons_zero, List.set_cons_succ]
                refine wpAnyH_take (i := 11) (v := ?_) rfl (by kernel_rfl) (by kernel_rfl) (by kernel_rfl) (fun _ _ _ h => h) (Or.inl ⟨by rfl, fun w0 hSw => ?_⟩) hHeld ?_
                rotate_left
                · (try dsimp only at hSw)
                  go_simp
                  try with_reducible rfl
                simp only [Act.put, List.getElem_toArray, List.getElem_cons_succ, List.getElem_cons_zero, List.setIfInBounds_toArray, List.set_cons_zero, List.set_cons_succ]
                refine wpAnyH_done (by kernel_rfl) ?_ _
                refine NoPanic.normal ?_
                go_wp2_with fail
                go_meet
                exact ⟨rfl, rfl, hX.out⟩
              have L2_2_5 : ∀ (wv : World) (v3 v4 v2 v5 : Value), Hid (Ext w5 wv) → Hid (OwnQ 163 0 wv v3 q1) → Hid (OwnQ 163 0 wv v4 q1) → Hid (L2A [(([((0 : Int), q1)], qm), 1), (([((0 : Int), qm)], q2), 1)] wv v2) → Hid (L2Q [q1, q1] wv v5) → wpAnyH Try.prog .any O Q9 SS 6 #[true, true, true, true, true, true, false, false, false, false, false, false] ((((AA.put (some 22) v2).put (some 23) v3).put (some 24) v4).put (some 25) v5) wv := by
                intro wv v3 v4 v2 v5 hX p3 p4 p2 p5
                have hO1 := hO.out
                have hQ1 := hQ.out
                have hA1 := hA.out
                subst hO1
                subst hQ1
                subst hA1
                have XE := hX.out
                try simp only [Act.put, List.getElem_toArray, List.getElem_cons_succ, List.getElem_cons_zero, List.setIfInBounds_toArray, List.set_cons_zero, List.set_cons_succ]
                refine wpAnyH_ready (rs := [6]) (by kernel_rfl) (by simp) ?_
                refine AllReadyH.cons (o := _) rfl (fun K hK => ?_) AllReadyH.nil
                go_simp
                go_at_call 57
                refine (HR1.out _ _ _ p2.out p5.out).mono ?_
                rintro e wn ⟨vn, rfl, bn, on⟩
                go_wp2_with fail
                refine hK.out _ _ (KP.out _ (Ext.trans XE bn)) (fun _ => ?_)
                clear hK K
                try simp only [Act.put, List.getElem_toArray, List.getElem_cons_succ, List.getElem_cons_zero, List.setIfInBounds_toArray, List.set_cons_zero, List.set_cons_succ]
                exact wpAnyH_at (L3_2_5 wn v3 v4 vn v2 v5 (Ext.trans XE bn) (p3.out.ext bn) (p4.out.ext bn) (on) (p2.out.ext bn) (p5.out.ext bn)) (by kernel_rfl) (by kernel_rfl) (by kernel_rfl)
              have L2_5 : ∀ (wv : World) (v3 v4 v5 : Value), Hid (Ext w5 wv) → Hid (OwnQ 163 0 wv v3 q1) → Hid (OwnQ 163 0 wv v4 q1) → Hid (L2Q [q1, q1] wv v5) → wpAnyH Try.prog .any O Q9 SS 7 #[true, true, false, true, true, true, false, false, false, false, false, false] (((AA.put (some 23) v3).put (some 24) v4).put (some 25) v5) wv := by
                intro wv v3 v4 v5 hX p3 p4 p5
                have hO1 := hO.out
                have hQ1 := hQ.out
                have hA1 := hA.out
                subst hO1
                subst hQ1
                subst hA1
                have XE := hX.out
                try simp only [Act.put, List.getElem_toArray, List.getElem_cons_succ, List.getElem_cons_zero, List.setIfInBounds_toArray, List.set_cons_zero, List.set_cons_succ]
                refine wpAnyH_ready (rs := [2]) (by kernel_rfl) (by simp) ?_
                refine AllReadyH.cons (o := _) rfl (fun K hK => ?_) AllReadyH.nil
                refine if_wantedL rfl ?_
                refine build25K etAt (by rfl) (by rfl) (by rfl) ?_
                refine hK.out _ _ (KP.out _ (Ext.trans XE (Ext.alloc _ _))) (fun _ => ?_)
                clear hK K
                try simp only [Act.put, List.getElem_toArray, List.getElem_cons_succ, List.getElem_cons_zero, List.setIfInBounds_toArray, List.set_cons_zero, List.set_cons_succ]
                exact wpAnyH_at (L2_2_5 _ _ _ (.slice (some ⟨wv.heap.size, 0, none⟩) 2 2) _ (Ext.trans XE (Ext.alloc _ _)) (p3.out.ext (Ext.alloc _ _)) (p4.out.ext (Ext.alloc _ _)) (lit_row wv [[x0, x1, x2, x3, .int .i64 1], [y0, y1, y2, y3, .int .i64 1]] _ _ rfl ⟨⟨rfl, OwnAt.ext OA5.out XE⟩, ⟨rfl, OwnAt.ext OB5.out XE⟩, trivial⟩ OwnAt.ext (by unfold maxLen; simp)) (p5.out.ext (Ext.alloc _ _))) (by kernel_rfl) (by kernel_rfl) (by kernel_rfl)
              have L2_2 : ∀ (wv : World) (v3 v4 v2 : Value), Hid (Ext w5 wv) → Hid (OwnQ 163 0 wv v3 q1) → Hid (OwnQ 163 0 wv v4 q1) → Hid (L2A [(([((0 : Int), q1)], qm), 1), (([((0 : Int), qm)], q2), 1)] wv v2) → wpAnyH Try.prog .any O Q9 SS 7 #[true, true, true, true, true, false, false, false, false, false, false, false] (((AA.put (some 22) v2).put (some 23) v3).put (some 24) v4) wv := by
                intro wv v3 v4 v2 hX p3 p4 p2
                have hO1 := hO.out
                have hQ1 := hQ.out
                have hA1 := hA.out
                subst hO1
                subst hQ1
                subst hA1
                have XE := hX.out
                try simp only [Act.put, List.getElem_toArray, List.getElem_cons_succ, List.getElem_cons_zero, List.setIfInBounds_toArray, List.set_cons_zero, List.set_cons_succ]
                refine wpAnyH_ready (rs := [5]) (by kernel_rfl) (by simp) ?_
                refine AllReadyH.cons (o := _) rfl (fun K hK => ?_) AllReadyH.nil
                refine if_wantedL rfl ?_
                obtain ⟨f0, f1, f2, f3, f4, f5, f6, rfl, P3⟩ := p3.out.op
                obtain ⟨g0, g1, g2, g3, g4, g5, g6, rfl, P4⟩ := p4.out.op
                refine build23K etRats (by rfl) (by rfl) (by rfl) ?_
                refine hK.out _ _ (KP.out _ (Ext.trans XE (Ext.alloc _ _))) (fun _ => ?_)
                clear hK K
                try simp only [Act.put, List.getElem_toArray, List.getElem_cons_succ, List.getElem_cons_zero, List.setIfInBounds_toArray, List.set_cons_zero, List.set_cons_succ]
                exact wpAnyH_at (L2_2_5 _ _ _ _ (.slice (some ⟨wv.heap.size, 0, none⟩) 2 2) (Ext.trans XE (Ext.alloc _ _)) (p3.out.ext (Ext.alloc _ _)) (p4.out.ext (Ext.alloc _ _)) (p2.out.ext (Ext.alloc _ _)) (lit_row wv [[.bool f0, .slice f1 f2 f3, .slice f4 f5 f6], [.bool g0, .slice g1 g2 g3, .slice g4 g5 g6]] _ _ rfl ⟨⟨rfl, P3.out⟩, ⟨rfl, P4.out⟩, trivial⟩ OwnQ.ext (by unfold maxLen; simp))) (by kernel_rfl) (by kernel_rfl) (by kernel_rfl)
              have L2_ : ∀ (wv : World) (v3 v4 : Value), Hid (Ext w5 wv) → Hid (OwnQ 163 0 wv v3 q1) → Hid (OwnQ 163 0 wv v4 q1) → wpAnyH Try.prog .any O Q9 SS 8 #[true, true, false, true, true, false, false, false, false, false, false, false] ((AA.put (some 23) v3).put (some 24) v4) wv := by
                intro wv v3 v4 hX p3 p4
                have hO1 := hO.out
                have hQ1 := hQ.out
                have hA1 := hA.out
                subst hO1
                subst hQ1
                subst hA1
                have XE := hX.out
                try simp only [Act.put, List.getElem_toArray, List.getElem_cons_succ, List.getElem_cons_zero, List.setIfInBounds_toArray, List.set_cons_zero, List.set_cons_succ]
                refine wpAnyH_ready (rs := [2, 5]) (by kernel_rfl) (by simp) ?_
                refine AllReadyH.cons (o := _) rfl (fun K hK => ?_) (AllReadyH.cons (o := _) rfl (fun K hK => ?_) AllReadyH.nil)
                · skip
                  refine if_wantedL rfl ?_
                  refine build25K etAt (by rfl) (by rfl) (by rfl) ?_
                  refine hK.out _ _ (KP.out _ (Ext.trans XE (Ext.alloc _ _))) (fun _ => ?_)
                  clear hK K
                  try simp only [Act.put, List.getElem_toArray, List.getElem_cons_succ, List.getElem_cons_zero, List.setIfInBounds_toArray, List.set_cons_zero, List.set_cons_succ]
                  exact wpAnyH_at (L2_2 _ _ _ (.slice (some ⟨wv.heap.size, 0, none⟩) 2 2) (Ext.trans XE (Ext.alloc _ _)) (p3.out.ext (Ext.alloc _ _)) (p4.out.ext (Ext.alloc _ _)) (lit_row wv [[x0, x1, x2, x3, .int .i64 1], [y0, y1, y2, y3, .int .i64 1]] _ _ rfl ⟨⟨rfl, OwnAt.ext OA5.out XE⟩, ⟨rfl, OwnAt.ext OB5.out XE⟩, trivial⟩ OwnAt.ext (by unfold maxLen; simp))) (by kernel_rfl) (by kernel_rfl) (by kernel_rfl)
                · skip
                  refine if_wantedL rfl ?_
                  obtain ⟨f0, f1, f2, f3, f4, f5, f6, rfl, P3⟩ := p3.out.op
                  obtain ⟨g0, g1, g2, g3, g4, g5, g6, rfl, P4⟩ := p4.out.op
                  refine build23K etRats (by rfl) (by rfl) (by rfl) ?_
                  refine hK.out _ _ (KP.out _ (Ext.trans XE (Ext.alloc _ _))) (fun _ => ?_)
                  clear hK K
                  try simp only [Act.put, List.getElem_toArray, List.getElem_cons_succ, List.getElem_cons_zero, List.setIfInBounds_toArray, List.set_cons_zero, List.set_cons_succ]
                  exact wpAnyH_at (L2_5 _ _ _ (.slice (some ⟨wv.heap.size, 0, none⟩) 2 2) (Ext.trans XE (Ext.alloc _ _)) (p3.out.ext (Ext.alloc _ _)) (p4.out.ext (Ext.alloc _ _)) (lit_row wv [[.bool f0, .slice f1 f2 f3, .slice f4 f5 f6], [.bool g0, .slice g1 g2 g3, .slice g4 g5 g6]] _ _ rfl ⟨⟨rfl, P3.out⟩, ⟨rfl, P4.out⟩, trivial⟩ OwnQ.ext (by unfold maxLen; simp))) (by kernel_rfl) (by kernel_rfl) (by kernel_rfl)
              have L1_2 : ∀ (wv : World) (v3 v2 : Value), Hid (Ext w5 wv) → Hid (OwnQ 163 0 wv v3 q1) → Hid (L2A [(([((0 : Int), q1)], qm), 1), (([((0 : Int), qm)], q2), 1)] wv v2) → wpAnyH Try.prog .any O Q9 SS 8 #[true, true, true, true, false, false, false, false, false, false, false, false] ((AA.put (some 22) v2).put (some 23) v3) wv := by
                intro wv v3 v2 hX p3 p2
                have hO1 := hO.out
                have hQ1 := hQ.out
                have hA1 := hA.out
                subst hO1
                subst hQ1
                subst hA1
                have XE := hX.out
                try simp only [Act.put, List.getElem_toArray, List.getElem_cons_succ, List.getElem_cons_zero, List.setIfInBounds_toArray, List.set_cons_zero, List.set_cons_succ]
                refine wpAnyH_ready (rs := [4]) (by kernel_rfl) (by simp) ?_
                refine AllReadyH.cons (o := _) rfl (fun K hK => ?_) AllReadyH.nil
                go_simp
                go_at_call 44
                refine (HI1.out _).mono ?_
                rintro e wn ⟨vn, rfl, bn, on⟩
                go_wp2_with fail
                refine hK.out _ _ (KP.out _ (Ext.trans XE bn)) (fun _ => ?_)
                clear hK K
                try simp only [Act.put, List.getElem_toArray, List.getElem_cons_succ, List.getElem_cons_zero, List.setIfInBounds_toArray, List.set_cons_zero, List.set_cons_succ]
                exact wpAnyH_at (L2_2 wn v3 vn v2 (Ext.trans XE bn) (p3.out.ext bn) (on) (p2.out.ext bn)) (by kernel_rfl) (by kernel_rfl) (by kernel_rfl)
              have L1_ : ∀ (wv : World) (v3 : Value), Hid (Ext w5 wv) → Hid (OwnQ 163 0 wv v3 q1) → wpAnyH Try.prog .any O Q9 SS 9 #[true, true, false, true, false, false, false, false, false, false, false, false] (AA.put (some 23) v3) wv := by
                intro wv v3 hX p3
                have hO1 := hO.out
                have hQ1 := hQ.out
                have hA1 := hA.out
                subst hO1
                subst hQ1
                subst hA1
                have XE := hX.out
                try simp only [Act.put, List.getElem_toArray, List.getElem_cons_succ, List.getElem_cons_zero, List.setIfInBounds_toArray, List.set_cons_zero, List.set_cons_succ]
                refine wpAnyH_ready (rs := [2, 4]) (by kernel_rfl) (by simp) ?_
                refine AllReadyH.cons (o := _) rfl (fun K hK => ?_) (AllReadyH.cons (o := _) rfl (fun K hK => ?_) AllReadyH.nil)
                · skip
                  refine if_wantedL rfl ?_
                  refine build25K etAt (by rfl) (by rfl) (by rfl) ?_
                  refine hK.out _ _ (KP.out _ (Ext.trans XE (Ext.alloc _ _))) (fun _ => ?_)
                  clear hK K
                  try simp only [Act.put, List.getElem_toArray, List.getElem_cons_succ, List.getElem_cons_zero, List.setIfInBounds_toArray, List.set_cons_zero, List.set_cons_succ]
                  exact wpAnyH_at (L1_2 _ _ (.slice (some ⟨wv.heap.size, 0, none⟩) 2 2) (Ext.trans XE (Ext.alloc _ _)) (p3.out.ext (Ext.alloc _ _)) (lit_row wv [[x0, x1, x2, x3, .int .i64 1], [y0, y1, y2, y3, .int .i64 1]] _ _ rfl ⟨⟨rfl, OwnAt.ext OA5.out XE⟩, ⟨rfl, OwnAt.ext OB5.out XE⟩, trivial⟩ OwnAt.ext (by unfold maxLen; simp))) (by kernel_rfl) (by kernel_rfl) (by kernel_rfl)
                · skip
                  go_simp
                  go_at_call 44
                  refine (HI1.out _).mono ?_
                  rintro e wn ⟨vn, rfl, bn, on⟩
                  go_wp2_with fail
                  refine hK.out _ _ (KP.out _ (Ext.trans XE bn)) (fun _ => ?_)
                  clear hK K
                  try simp only [Act.put, List.getElem_toArray, List.getElem_cons_succ, List.getElem_cons_zero, List.setIfInBounds_toArray, List.set_cons_zero, List.set_cons_succ]
                  exact wpAnyH_at (L2_ wn v3 vn (Ext.trans XE bn) (p3.out.ext bn) (on)) (by kernel_rfl) (by kernel_rfl) (by kernel_rfl)
              have L0_2 : ∀ (wv : World) (v2 : Value), Hid (Ext w5 wv) → Hid (L2A [(([((0 : Int), q1)], qm), 1), (([((0 : Int), qm)], q2), 1)] wv v2) → wpAnyH Try.prog .any O Q9 SS 9 #[true, true, true, false, false, false, false, false, false, false, false, false] (AA.put (some 22) v2) wv := by
                intro wv v2 hX p2
                have hO1 := hO.out
                have hQ1 := hQ.out
                have hA1 := hA.out
                subst hO1
                subst hQ1
                subst hA1
                have XE := hX.out
                try simp only [Act.put, List.getElem_toArray, List.getElem_cons_succ, List.getElem_cons_zero, List.setIfInBounds_toArray, List.set_cons_zero, List.set_cons_succ]
                refine wpAnyH_ready (rs := [3]) (by kernel_rfl) (by simp) ?_
                refine AllReadyH.cons (o := _) rfl (fun K hK => ?_) AllReadyH.nil
                go_simp
                go_at_call 44
                refine (HI1.out _).mono ?_
                rintro e wn ⟨vn, rfl, bn, on⟩
                go_wp2_with fail
                refine hK.out _ _ (KP.out _ (Ext.trans XE bn)) (fun _ => ?_)
                clear hK K
                try simp only [Act.put, List.getElem_toArray, List.getElem_cons_succ, List.getElem_cons_zero, List.setIfInBounds_toArray, List.set_cons_zero, List.set_cons_succ]
                exact wpAnyH_at (L1_2 wn vn v2 (Ext.trans XE bn) (on) (p2.out.ext bn)) (by kernel_rfl) (by kernel_rfl) (by kernel_rfl)
              have L0_ : ∀ (wv : World), Hid (Ext w5 wv) → wpAnyH Try.prog .any O Q9 SS 10 #[true, true, false, false, false, false, false, false, false, false, false, false] AA wv := by
                intro wv hX
                have hO1 := hO.out
                have hQ1 := hQ.out
                have hA1 := hA.out
                subst hO1
                subst hQ1
                subst hA1
                have XE := hX.out
                try simp only [Act.put, List.getElem_toArray, List.getElem_cons_succ, List.getElem_cons_zero, List.setIfInBounds_toArray, List.set_cons_zero, List.set_cons_succ]
                refine wpAnyH_ready (rs := [2, 3]) (by kernel_rfl) (by simp) ?_
                refine AllReadyH.cons (o := _) rfl (fun K hK => ?_) (AllReadyH.cons (o := _) rfl (fun K hK => ?_) AllReadyH.nil)
                · skip
                  refine if_wantedL rfl ?_
                  refine build25K etAt (by rfl) (by rfl) (by rfl) ?_
                  refine hK.out _ _ (KP.out _ (Ext.trans XE (Ext.alloc _ _))) (fun _ => ?_)
                  clear hK K
                  try simp only [Act.put, List.getElem_toArray, List.getElem_cons_succ, List.getElem_cons_zero, List.setIfInBounds_toArray, List.set_cons_zero, List.set_cons_succ]
                  exact wpAnyH_at (L0_2 _ (.slice (some ⟨wv.heap.size, 0, none⟩) 2 2) (Ext.trans XE (Ext.alloc _ _)) (lit_row wv [[x0, x1, x2, x3, .int .i64 1], [y0, y1, y2, y3, .int .i64 1]] _ _ rfl ⟨⟨rfl, OwnAt.ext OA5.out XE⟩, ⟨rfl, OwnAt.ext OB5.out XE⟩, trivial⟩ OwnAt.ext (by unfold maxLen; simp))) (by kernel_rfl) (by kernel_rfl) (by kernel_rfl)
                · skip
                  go_simp
                  go_at_call 44
                  refine (HI1.out _).mono ?_
                  rintro e wn ⟨vn, rfl, bn, on⟩
                  go_wp2_with fail
                  refine hK.out _ _ (KP.out _ (Ext.trans XE bn)) (fun _ => ?_)
                  clear hK K
                  try simp only [Act.put, List.getElem_toArray, List.getElem_cons_succ, List.getElem_cons_zero, List.setIfInBounds_toArray, List.set_cons_zero, List.set_cons_succ]
                  exact wpAnyH_at (L1_ wn vn (Ext.trans XE bn) (on)) (by kernel_rfl) (by kernel_rfl) (by kernel_rfl)
              have hO1 := hO.out
              have hQ1 := hQ.out
              have hA1 := hA.out
              subst hO1
              subst hQ1
              subst hA1
              have hS1 := hSS.out
              subst hS1
              exact wpAnyH_at (L0_ w5.drew (drew_ext w5)) (by kernel_rfl) (by kernel_rfl) (by kernel_rfl)
          case rest =>
            as_aux_lemma =>
              obtain ⟨rfl, rfl, b6⟩ := hcut
              generalize wc = w6 at *
              have CA6 := Lib.hid (CA5.out.ext b6)
              have CB6 := Lib.hid (CB5.out.ext b6)
              have OA6 := Lib.hid (OwnAt.ext OA5.out b6)
              have OB6 := Lib.hid (OwnAt.ext OB5.out b6)
              clear CA5 CB5 OA5 OB5
              go_upto_region 5 with (fail)
              go_cut [6, 7] (fun s4 s5 wx => s4 = .bool false ∧ s5 = .int .i64 0 ∧ Ext w6 wx)
              case first =>
                as_aux_lemma =>
                  refine wp_region_noPanic ?_
                  refine wp_region_held_drew (S := fun w' => (w'.cell? ⟨BA, 0, none⟩ = some (x0) ∧ w'.cell? ⟨BA, 1, none⟩ = some (x1) ∧ w'.cell? ⟨BA, 2, none⟩ = some (x2) ∧ w'.cell? ⟨BA, 3, none⟩ = some (x3) ∧ w'.cell? ⟨BA, 4, none⟩ = some (.int .i64 1)) ∧ (w'.cell? ⟨BB, 0, none⟩ = some (y0) ∧ w'.cell? ⟨BB, 1, none⟩ = some (y1) ∧ w'.cell? ⟨BB, 2, none⟩ = some (y2) ∧ w'.cell? ⟨BB, 3, none⟩ = some (y3) ∧ w'.cell? ⟨BB, 4, none⟩ = some (.int .i64 1))) (by kernel_rfl) (⟨(CA6.out.ext (drew_ext w6)).c5, (CB6.out.ext (drew_ext w6)).c5⟩) (fun hHeld => ?_)
                  refine wpAnyH_take (i := 0) (v := ?_) rfl (by kernel_rfl) (by kernel_rfl) (by kernel_rfl) (fun _ _ _ h => h) (Or.inl ⟨by rfl, fun w0 hSw => ?_⟩) hHeld ?_
                  rotate_left
                  · (try dsimp only at hSw)
                    go_simp
                    try with_reducible rfl
                  simp only [Act.put, List.getElem_toArray, List.getElem_cons_succ, List.getElem_cons_zero, List.setIfInBounds_toArray, List.set_cons_zero, List.set_cons_succ]
                  refine wpAnyH_take (i := 1) (v := ?_) rfl (by kernel_rfl) (by kernel_rfl) (by kernel_rfl) (fun _ _ _ h => h) (Or.inl ⟨by rfl, fun w0 hSw => ?_⟩) hHeld ?_
                  rotate_left
                  · (try dsimp only at hSw)
                    go_simp
                    try with_reducible rfl
                  simp only [Act.put, List.getElem_toArray, List.getElem_cons_succ, List.getElem_cons_zero, List.setIfInBounds_toArray, List.set_cons_zero, List.set_cons_succ]
                  refine anyH_cap fun O Q9 AA hO hQ hA => ?_
                  obtain ⟨SS, hSS⟩ : ∃ SS : World → Prop, Hid (SS = fun w' => (w'.cell? ⟨BA, 0, none⟩ = some (x0) ∧ w'.cell? ⟨BA, 1, none⟩ = some (x1) ∧ w'.cell? ⟨BA, 2, none⟩ = some (x2) ∧ w'.cell? ⟨BA, 3, none⟩ = some (x3) ∧ w'.cell? ⟨BA, 4, none⟩ = some (.int .i64 1)) ∧ (w'.cell? ⟨BB, 0, none⟩ = some (y0) ∧ w'.cell? ⟨BB, 1, none⟩ = some (y1) ∧ w'.cell? ⟨BB, 2, none⟩ = some (y2) ∧ w'.cell? ⟨BB, 3, none⟩ = some (y3) ∧ w'.cell? ⟨BB, 4, none⟩ = some (.int .i64 1))) := ⟨_, rfl⟩
                  have KP : Hid (∀ wv, Ext w6 wv → SS wv) := fun wv XE => by rw [hSS.out]; exact ⟨(CA6.out.ext XE).c5, (CB6.out.ext XE).c5⟩
                  have L3_2_5 : ∀ (wv : World) (v3 v4 v6 v2 v5 : Value), Hid (Ext w6 wv) → Hid (OwnQ 163 0 wv v3 q1) → Hid (OwnQ 163 0 wv v4 q2) → Hid (Vl (.tuple #[.bool false, .int .i64 0]) wv v6) → Hid (L2A [(([((0 : Int), q1)], qm), 1), (([((0 : Int), qm)], q2), 1)] wv v2) → Hid (L2Q [q1, q2] wv v5) → wpAnyH Try.prog .any O Q9 SS 5 #[true, true, true, true, true, true, true, false, false, false, false, false] (((((AA.put (some 32) v2).put (some 33) v3).put (some 34) v4).put (some 35) v5).put (some 36) v6) wv := by
                    intro wv v3 v4 v6 v2 v5 hX p3 p4 p6 p2 p5
                    have hO1 := hO.out
                    have hQ1 := hQ.out
                    have hA1 := hA.out
                    subst hO1
                    subst hQ1
                    subst hA1
                    have XE := hX.out
                    have hS1 := hSS.out
                    subst hS1
                    have hHeld : (fun w' => (w'.cell? ⟨BA, 0, none⟩ = some (x0) ∧ w'.cell? ⟨BA, 1, none⟩ = some (x1) ∧ w'.cell? ⟨BA, 2, none⟩ = some (x2) ∧ w'.cell? ⟨BA, 3, none⟩ = some (x3) ∧ w'.cell? ⟨BA, 4, none⟩ = some (.int .i64 1)) ∧ (w'.cell? ⟨BB, 0, none⟩ = some (y0) ∧ w'.cell? ⟨BB, 1, none⟩ = some (y1) ∧ w'.cell? ⟨BB, 2, none⟩ = some (y2) ∧ w'.cell? ⟨BB, 3, none⟩ = some (y3) ∧ w'.cell? ⟨BB, 4, none⟩ = some (.int .i64 1))) wv := ⟨(CA6.out.ext XE).c5, (CB6.out.ext XE).c5⟩
                    try simp only [Act.put, List.getElem_toArray, List.getElem_cons_succ, List.getElem_cons_zero, List.setIfInBounds_toArray, List.set_cons_zero, List.set_cons_succ]
                    obtain rfl : v6 = _ := p6.out
                    refine wpAnyH_take (i := 7) (v := ?_) rfl (by kernel_rfl) (by kernel_rfl) (by kernel_rfl) (fun _ _ _ h => h) (Or.inl ⟨by rfl, fun w0 hSw => ?_⟩) hHeld ?_
                    rotate_left
                    · (try dsimp only at hSw)
                      go_simp
                      try with_reducible rfl
                    simp only [Act.put, List.getElem_toArray, List.getElem_cons_succ, List.getElem_cons_zero, List.setIfInBounds_toArray, List.set_cons_zero, List.set_cons_succ]
                    refine wpAnyH_take (i := 8) (v := ?_) rfl (by kernel_rfl) (by kernel_rfl) (by kernel_rfl) (fun _ _ _ h => h) (Or.inl ⟨by rfl, fun w0 hSw => ?_⟩) hHeld ?_
                    rotate_left
                    · (try dsimp only at hSw)
                      go_simp
                      try with_reducible rfl
                    simp only [Act.put, List.getElem_toArray, List.getElem_cons_succ, List.getElem_cons_zero, List.setIfInBounds_toArray, List.set_cons_zero, List.set_cons_succ]
                    refine wpAnyH_take (i := 9) (v := ?_) rfl (by kernel_rfl) (by kernel_rfl) (by kernel_rfl) (fun _ _ _ h => h) (Or.inl ⟨by rfl, fun w0 hSw => ?_⟩) hHeld ?_
                    rotate_left
                    · (try dsimp only at hSw)
                      go_simp
                      try with_reducible rfl
                    simp only [Act.put, List.getElem_toArray, List.getElem_cons_succ, List.getElem_cons_zero, List.setIfInBounds_toArray, List.set_cons_zero, List.set_cons_succ]
                    refine wpAnyH_take (i := 10) (v := ?_) rfl (by kernel_rfl) (by kernel_rfl) (by kernel_rfl) (fun _ _ _ h => h) (Or.inl ⟨by rfl, fun w0 hSw => ?_⟩) hHeld ?_
                    rotate_left
                    · (try dsimp only at hSw)
                      go_simp
                      try with_reducible rfl
                    simp only [Act.put, List.getElem_toArray, List.getElem_cons_succ, List.getElem_cons_zero, List.setIfInBounds_toArray, List.set_cons_zero, List.set_cons_succ]
                    refine wpAnyH_take (i := 11) (v := ?_) rfl (by kernel_rfl) (by kernel_rfl) (by kernel_rfl) (fun _ _ _ h => h) (Or.inl ⟨by rfl, fun w0 hSw => ?_⟩) hHeld ?_
                    rotate_left
                    · (try dsimp only at hSw)
                      go_simp
                      try with_reducible rfl
                    simp only [Act.put, List.getElem_toArray, List.getElem_cons_succ, List.getElem_cons_zero, List.setIfInBounds_toArray, List.set_cons_zero, List.set_cons_succ]
                    refine wpAnyH_done (by kernel_rfl) ?_ _
                    refine NoPanic.normal ?_
                    go_wp2_with fail
                    go_meet
                    exact ⟨rfl, rfl, hX.out⟩
                  have L2_2_5 : ∀ (wv : World) (v3 v4 v2 v5 : Value), Hid (Ext w6 wv) → Hid (OwnQ 163 0 wv v3 q1) → Hid (OwnQ 163 0 wv v4 q2) → Hid (L2A [(([((0 : Int), q1)], qm), 1), (([((0 : Int), qm)], q2), 1)] wv v2) → Hid (L2Q [q1, q2] wv v5) → wpAnyH Try.prog .any O Q9 SS 6 #[true, true, true, true, true, true, false, false, false, false, false, false] ((((AA.put (some 32) v2).put (some 33) v3).put (some 34) v4).put (some 35) v5) wv := by
                    intro wv v3 v4 v2 v5 hX p3 p4 p2 p5
                    have hO1 := hO.out
                    have hQ1 := hQ.out
                    have hA1 := hA.out
                    subst hO1
                    subst hQ1
                    subst hA1
                    have XE := hX.out
                    try simp only [Act.put, List.getElem_toArray, List.getElem_cons_succ, List.getElem_cons_zero, List.setIfInBounds_toArray, List.set_cons_zero, List.set_cons_succ]
                    refine wpAnyH_ready (rs := [6]) (by kernel_rfl) (by simp) ?_
                    refine AllReadyH.cons (o := _) rfl (fun K hK => ?_) AllReadyH.nil
                    go_simp
                    go_at_call 57
                    refine (HR2.out _ _ _ p2.out p5.out).mono ?_
                    rintro e wn ⟨vn, rfl, bn, on⟩
                    go_wp2_with fail
                    refine hK.out _ _ (KP.out _ (Ext.trans XE bn)) (fun _ => ?_)
                    clear hK K
                    try simp only [Act.put, List.getElem_toArray, List.getElem_cons_succ, List.getElem_cons_zero, List.setIfInBounds_toArray, List.set_cons_zero, List.set_cons_succ]
                    exact wpAnyH_at (L3_2_5 wn v3 v4 vn v2 v5 (Ext.trans XE bn) (p3.out.ext bn) (p4.out.ext bn) (on) (p2.out.ext bn) (p5.out.ext bn)) (by kernel_rfl) (by kernel_rfl) (by kernel_rfl)
                  have L2_5 : ∀ (wv : World) (v3 v4 v5 : Value), Hid (Ext w6 wv) → Hid (OwnQ 163 0 wv v3 q1) → Hid (OwnQ 163 0 wv v4 q2) → Hid (L2Q [q1, q2] wv v5) → wpAnyH Try.prog .any O Q9 SS 7 #[true, true, false, true, true, true, false, false, false, false, false, false] (((AA.put (some 33) v3).put (some 34) v4).put (some 35) v5) wv := by
                    intro wv v3 v4 v5 hX p3 p4 p5
                    have hO1 := hO.out
                    have hQ1 := hQ.out
                    have hA1 := hA.out
                    subst hO1
                    subst hQ1
                    subst hA1
                    have XE := hX.out
                    try simp only [Act.put, List.getElem_toArray, List.getElem_cons_succ, List.getElem_cons_zero, List.setIfInBounds_toArray, List.set_cons_zero, List.set_cons_succ]
                    refine wpAnyH_ready (rs := [2]) (by kernel_rfl) (by simp) ?_
                    refine AllReadyH.cons (o := _) rfl (fun K hK => ?_) AllReadyH.nil
                    refine if_wantedL rfl ?_
                    refine build25K etAt (by rfl) (by rfl) (by rfl) ?_
                    refine hK.out _ _ (KP.out _ (Ext.trans XE (Ext.alloc _ _))) (fun _ => ?_)
                    clear hK K
                    try simp only [Act.put, List.getElem_toArray, List.getElem_cons_succ, List.getElem_cons_zero, List.setIfInBounds_toArray, List.set_cons_zero, List.set_cons_succ]
                    exact wpAnyH_at (L2_2_5 _ _ _ (.slice (some ⟨wv.heap.size, 0, none⟩) 2 2) _ (Ext.trans XE (Ext.alloc _ _)) (p3.out.ext (Ext.alloc _ _)) (p4.out.ext (Ext.alloc _ _)) (lit_row wv [[x0, x1, x2, x3, .int .i64 1], [y0, y1, y2, y3, .int .i64 1]] _ _ rfl ⟨⟨rfl, OwnAt.ext OA6.out XE⟩, ⟨rfl, OwnAt.ext OB6.out XE⟩, trivial⟩ OwnAt.ext (by unfold maxLen; simp)) (p5.out.ext (Ext.alloc _ _))) (by kernel_rfl) (by kernel_rfl) (by kernel_rfl)
                  have L2_2 : ∀ (wv : World) (v3 v4 v2 : Value), Hid (Ext w6 wv) → Hid (OwnQ 163 0 wv v3 q1) → Hid (OwnQ 163 0 wv v4 q2) → Hid (L2A [(([((0 : Int), q1)], qm), 1), (([((0 : Int), qm)], q2), 1)] wv v2) → wpAnyH Try.prog .any O Q9 SS 7 #[true, true, true, true, true, false, false, false, false, false, false, false] (((AA.put (some 32) v2).put (some 33) v3).put (some 34) v4) wv := by
                    intro wv v3 v4 v2 hX p3 p4 p2
                    have hO1 := hO.out
                    have hQ1 := hQ.out
                    have hA1 := hA.out
                    subst hO1
                    subst hQ1
                    subst hA1
                    have XE := hX.out
                    try simp only [Act.put, List.getElem_toArray, List.getElem_cons_succ, List.getElem_cons_zero, List.setIfInBounds_toArray, List.set_cons_zero, List.set_cons_succ]
                    refine wpAnyH_ready (rs := [5]) (by kernel_rfl) (by simp) ?_
                    refine AllReadyH.cons (o := _) rfl (fun K hK => ?_) AllReadyH.nil
                    refine if_wantedL rfl ?_
                    obtain ⟨f0, f1, f2, f3, f4, f5, f6, rfl, P3⟩ := p3.out.op
                    obtain ⟨g0, g1, g2, g3, g4, g5, g6, rfl, P4⟩ := p4.out.op
                    refine build23K etRats (by rfl) (by rfl) (by rfl) ?_
                    refine hK.out _ _ (KP.out _ (Ext.trans XE (Ext.alloc _ _))) (fun _ => ?_)
                    clear hK K
                    try simp only [Act.put, List.getElem_toArray, List.getElem_cons_succ, List.getElem_cons_zero, List.setIfInBounds_toArray, List.set_cons_zero, List.set_cons_succ]
                    exact wpAnyH_at (L2_2_5 _ _ _ _ (.slice (some ⟨wv.heap.size, 0, none⟩) 2 2) (Ext.trans XE (Ext.alloc _ _)) (p3.out.ext (Ext.alloc _ _)) (p4.out.ext (Ext.alloc _ _)) (p2.out.ext (Ext.alloc _ _)) (lit_row wv [[.bool f0, .slice f1 f2 f3, .slice f4 f5 f6], [.bool g0, .slice g1 g2 g3, .slice g4 g5 g6]] _ _ rfl ⟨⟨rfl, P3.out⟩, ⟨rfl, P4.out⟩, trivial⟩ OwnQ.ext (by unfold maxLen; simp))) (by kernel_rfl) (by kernel_rfl) (by kernel_rfl)
                  have L2_ : ∀ (wv : World) (v3 v4 : Value), Hid (Ext w6 wv) → Hid (OwnQ 163 0 wv v3 q1) → Hid (OwnQ 163 0 wv v4 q2) → wpAnyH Try.prog .any O Q9 SS 8 #[true, true, false, true, true, false, false, false, false, false, false, false] ((AA.put (some 33) v3).put (some 34) v4) wv := by
                    intro wv v3 v4 hX p3 p4
                    have hO1 := hO.out
                    have hQ1 := hQ.out
                    have hA1 := hA.out
                    subst hO1
                    subst hQ1
                    subst hA1
                    have XE := hX.out
                    try simp only [Act.put, List.getElem_toArray, List.getElem_cons_succ, List.getElem_cons_zero, List.setIfInBounds_toArray, List.set_cons_zero, List.set_cons_succ]
                    refine wpAnyH_ready (rs := [2, 5]) (by kernel_rfl) (by simp) ?_
                    refine AllReadyH.cons (o := _) rfl (fun K hK => ?_) (AllReadyH.cons (o := _) rfl (fun K hK => ?_) AllReadyH.nil)
                    · skip
                      refine if_wantedL rfl ?_
                      refine build25K etAt (by rfl) (by rfl) (by rfl) ?_
                      refine hK.out _ _ (KP.out _ (Ext.trans XE (Ext.alloc _ _))) (fun _ => ?_)
                      clear hK K
                      try simp only [Act.put, List.getElem_toArray, List.getElem_cons_succ, List.getElem_cons_zero, List.setIfInBounds_toArray, List.set_cons_zero, List.set_cons_succ]
                      exact wpAnyH_at (L2_2 _ _ _ (.slice (some ⟨wv.heap.size, 0, none⟩) 2 2) (Ext.trans XE (Ext.alloc _ _)) (p3.out.ext (Ext.alloc _ _)) (p4.out.ext (Ext.alloc _ _)) (lit_row wv [[x0, x1, x2, x3, .int .i64 1], [y0, y1, y2, y3, .int .i64 1]] _ _ rfl ⟨⟨rfl, OwnAt.ext OA6.out XE⟩, ⟨rfl, OwnAt.ext OB6.out XE⟩, trivial⟩ OwnAt.ext (by unfold maxLen; simp))) (by kernel_rfl) (by kernel_rfl) (by kernel_rfl)
                    · skip
                      refine if_wantedL rfl ?_
                      obtain ⟨f0, f1, f2, f3, f4, f5, f6, rfl, P3⟩ := p3.out.op
                      obtain ⟨g0, g1, g2, g3, g4, g5, g6, rfl, P4⟩ := p4.out.op
                      refine build23K etRats (by rfl) (by rfl) (by rfl) ?_
                      refine hK.out _ _ (KP.out _ (Ext.trans XE (Ext.alloc _ _))) (fun _ => ?_)
                      clear hK K
                      try simp only [Act.put, List.getElem_toArray, List.getElem_cons_succ, List.getElem_cons_zero, List.setIfInBounds_toArray, List.set_cons_zero, List.set_cons_succ]
                      exact wpAnyH_at (L2_5 _ _ _ (.slice (some ⟨wv.heap.size, 0, none⟩) 2 2) (Ext.trans XE (Ext.alloc _ _)) (p3.out.ext (Ext.alloc _ _)) (p4.out.ext (Ext.alloc _ _)) (lit_row wv [[.bool f0, .slice f1 f2 f3, .slice f4 f5 f6], [.bool g0, .slice g1 g2 g3, .slice g4 g5 g6]] _ _ rfl ⟨⟨rfl, P3.out⟩, ⟨rfl, P4.out⟩, trivial⟩ OwnQ.ext (by unfold maxLen; simp))) (by kernel_rfl) (by kernel_rfl) (by kernel_rfl)
                  have L1_2 : ∀ (wv : World) (v3 v2 : Value), Hid (Ext w6 wv) → Hid (OwnQ 163 0 wv v3 q1) → Hid (L2A [(([((0 : Int), q1)], qm), 1), (([((0 : Int), qm)], q2), 1)] wv v2) → wpAnyH Try.prog .any O Q9 SS 8 #[true, true, true, true, false, false, false, false, false, false, false, false] ((AA.put (some 32) v2).put (some 33) v3) wv := by
                    intro wv v3 v2 hX p3 p2
                    have hO1 := hO.out
                    have hQ1 := hQ.out
                    have hA1 := hA.out
                    subst hO1
                    subst hQ1
                    subst hA1
                    have XE := hX.out
                    try simp only [Act.put, List.getElem_toArray, List.getElem_cons_succ, List.getElem_cons_zero, List.setIfInBounds_toArray, List.set_cons_zero, List.set_cons_succ]
                    refine wpAnyH_ready (rs := [4]) (by kernel_rfl) (by simp) ?_
                    refine AllReadyH.cons (o := _) rfl (fun K hK => ?_) AllReadyH.nil
                    go_simp
                    go_at_call 44
                    refine (HI2.out _).mono ?_
                    rintro e wn ⟨vn, rfl, bn, on⟩
                    go_wp2_with fail
                    refine hK.out _ _ (KP.out _ (Ext.trans XE bn)) (fun _ => ?_)
                    clear hK K
                    try simp only [Act.put, List.getElem_toArray, List.getElem_cons_succ, List.getElem_cons_zero, List.setIfInBounds_toArray, List.set_cons_zero, List.set_cons_succ]
                    exact wpAnyH_at (L2_2 wn v3 vn v2 (Ext.trans XE bn) (p3.out.ext bn) (on) (p2.out.ext bn)) (by kernel_rfl) (by kernel_rfl) (by kernel_rfl)
                  have L1_ : ∀ (wv : World) (v3 : Value), Hid (Ext w6 wv) → Hid (OwnQ 163 0 wv v3 q1) → wpAnyH Try.prog .any O Q9 SS 9 #[true, true, false, true, false, false, false, false, false, false, false, false] (AA.put (some 33) v3) wv := by
                    intro wv v3 hX p3
                    have hO1 := hO.out
                    have hQ1 := hQ.out
                    have hA1 := hA.out
                    subst hO1
                    subst hQ1
                    subst hA1
                    have XE := hX.out
                    try simp only [Act.put, List.getElem_toArray, List.getElem_cons_succ, List.getElem_cons_zero, List.setIfInBounds_toArray, List.set_cons_zero, List.set_cons_succ]
                    refine wpAnyH_ready (rs := [2, 4]) (by kernel_rfl) (by simp) ?_
                    refine AllReadyH.cons (o := _) rfl (fun K hK => ?_) (AllReadyH.cons (o := _) rfl (fun K hK => ?_) AllReadyH.nil)
                    · skip
                      refine if_wantedL rfl ?_
                      refine build25K etAt (by rfl) (by rfl) (by rfl) ?_
                      refine hK.out _ _ (KP.out _ (Ext.trans XE (Ext.alloc _ _))) (fun _ => ?_)
                      clear hK K
                      try simp only [Act.put, List.getElem_toArray, List.getElem_cons_succ, List.getElem_cons_zero, List.setIfInBounds_toArray, List.set_cons_zero, List.set_cons_succ]
                      exact wpAnyH_at (L1_2 _ _ (.slice (some ⟨wv.heap.size, 0, none⟩) 2 2) (Ext.trans XE (Ext.alloc _ _)) (p3.out.ext (Ext.alloc _ _)) (lit_row wv [[x0, x1, x2, x3, .int .i64 1], [y0, y1, y2, y3, .int .i64 1]] _ _ rfl ⟨⟨rfl, OwnAt.ext OA6.out XE⟩, ⟨rfl, OwnAt.ext OB6.out XE⟩, trivial⟩ OwnAt.ext (by unfold maxLen; simp))) (by kernel_rfl) (by kernel_rfl) (by kernel_rfl)
                    · skip
                      go_simp
                      go_at_call 44
                      refine (HI2.out _).mono ?_
                      rintro e wn ⟨vn, rfl, bn, on⟩
                      go_wp2_with fail
                      refine hK.out _ _ (KP.out _ (Ext.trans XE bn)) (fun _ => ?_)
                      clear hK K
                      try simp only [Act.put, List.getElem_toArray, List.getElem_cons_succ, List.getElem_cons_zero, List.setIfInBounds_toArray, List.set_cons_zero, List.set_cons_succ]
                      exact wpAnyH_at (L2_ wn v3 vn (Ext.trans XE bn) (p3.out.ext bn) (on)) (by kernel_rfl) (by kernel_rfl) (by kernel_rfl)
                  have L0_2 : ∀ (wv : World) (v2 : Value), Hid (Ext w6 wv) → Hid (L2A [(([((0 : Int), q1)], qm), 1), (([((0 : Int), qm)], q2), 1)] wv v2) → wpAnyH Try.prog .any O Q9 SS 9 #[true, true, true, false, false, false, false, false, false, false, false, false] (AA.put (some 32) v2) wv := by
                    intro wv v2 hX p2
                    have hO1 := hO.out
                    have hQ1 := hQ.out
                    have hA1 := hA.out
                    subst hO1
                    subst hQ1
                    subst hA1
                    have XE := hX.out
                    try simp only [Act.put, List.getElem_toArray, List.getElem_cons_succ, List.getElem_cons_zero, List.setIfInBounds_toArray, List.set_cons_zero, List.set_cons_succ]
                    refine wpAnyH_ready (rs := [3]) (by kernel_rfl) (by simp) ?_
                    refine AllReadyH.cons (o := _) rfl (fun K hK => ?_) AllReadyH.nil
                    go_simp
                    go_at_call 44
                    refine (HI1.out _).mono ?_
                    rintro e wn ⟨vn, rfl, bn, on⟩
                    go_wp2_with fail
                    refine hK.out _ _ (KP.out _ (Ext.trans XE bn)) (fun _ => ?_)
                    clear hK K
                    try simp only [Act.put, List.getElem_toArray, List.getElem_cons_succ, List.getElem_cons_zero, List.setIfInBounds_toArray, List.set_cons_zero, List.set_cons_succ]
                    exact wpAnyH_at (L1_2 wn vn v2 (Ext.trans XE bn) (on) (p2.out.ext bn)) (by kernel_rfl) (by kernel_rfl) (by kernel_rfl)
                  have L0_ : ∀ (wv : World), Hid (Ext w6 wv) → wpAnyH Try.prog .any O Q9 SS 10 #[true, true, false, false, false, false, false, false, false, false, false, false] AA wv := by
                    intro wv hX
                    have hO1 := hO.out
                    have hQ1 := hQ.out
                    have hA1 := hA.out
                    subst hO1
                    subst hQ1
                    subst hA1
                    have XE := hX.out
                    try simp only [Act.put, List.getElem_toArray, List.getElem_cons_succ, List.getElem_cons_zero, List.setIfInBounds_toArray, List.set_cons_zero, List.set_cons_succ]
                    refine wpAnyH_ready (rs := [2, 3]) (by kernel_rfl) (by simp) ?_
                    refine AllReadyH.cons (o := _) rfl (fun K hK => ?_) (AllReadyH.cons (o := _) rfl (fun K hK => ?_) AllReadyH.nil)
                    · skip
                      refine if_wantedL rfl ?_
                      refine build25K etAt (by rfl) (by rfl) (by rfl) ?_
                      refine hK.out _ _ (KP.out _ (Ext.trans XE (Ext.alloc _ _))) (fun _ => ?_)
                      clear hK K
                      try simp only [Act.put, List.getElem_toArray, List.getElem_cons_succ, List.getElem_cons_zero, List.setIfInBounds_toArray, List.set_cons_zero, List.set_cons_succ]
                      exact wpAnyH_at (L0_2 _ (.slice (some ⟨wv.heap.size, 0, none⟩) 2 2) (Ext.trans XE (Ext.alloc _ _)) (lit_row wv [[x0, x1, x2, x3, .int .i64 1], [y0, y1, y2, y3, .int .i64 1]] _ _ rfl ⟨⟨rfl, OwnAt.ext OA6.out XE⟩, ⟨rfl, OwnAt.ext OB6.out XE⟩, trivial⟩ OwnAt.ext (by unfold maxLen; simp))) (by kernel_rfl) (by kernel_rfl) (by kernel_rfl)
                    · skip
                      go_simp
                      go_at_call 44
                      refine (HI1.out _).mono ?_
                      rintro e wn ⟨vn, rfl, bn, on⟩
                      go_wp2_with fail
                      refine hK.out _ _ (KP.out _ (Ext.trans XE bn)) (fun _ => ?_)
                      clear hK K
                      try simp only [Act.put, List.getElem_toArray, List.getElem_cons_succ, List.getElem_cons_zero, List.setIfInBounds_toArray, List.set_cons_zero, List.set_cons_succ]
                      exact wpAnyH_at (L1_ wn vn (Ext.trans XE bn) (on)) (by kernel_rfl) (by kernel_rfl) (by kernel_rfl)
                  have hO1 := hO.out
                  have hQ1 := hQ.out
                  have hA1 := hA.out
                  subst hO1
                  subst hQ1
                  subst hA1
                  have hS1 := hSS.out
                  subst hS1
                  exact wpAnyH_at (L0_ w6.drew (drew_ext w6)) (by kernel_rfl) (by kernel_rfl) (by kernel_rfl)
              case rest =>
                as_aux_lemma =>
                  obtain ⟨rfl, rfl, b7⟩ := hcut
                  generalize wc = w7 at *
                  go_wp2_with fail
                  exact hR.out _ _ (Gives.mk (Ext.trans b05 (Ext.trans b6 b7)) rfl)
end Go.Proofs.Ytnbbhpihlcglgaa
