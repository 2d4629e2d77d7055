/- A group of texts: PFarkIn, FarkLaw, PFarkUsed, RowSet, RowPut, RowApp, PRatAbs, PFarkLeast, FarkLeastP, PR15Rats -/
import Derived.Test.YtnbbhpihlcglgaaFrameA
import Derived.Test.YtnbbhpihlcglgaaPAtom2
import Derived.Test.YtnbbhpihlcglgaaPFarkRef
import Derived.Test.YtnbbhpihlcglgaaPAtomL
import Derived.Test.YtnbbhpihlcglgaaPNums
import Derived.Test.YtnbbhpihlcglgaaRef20All
import Derived.Test.YtnbbhpihlcglgaaEvL
import Derived.Test.YtnbbhpihlcglgaaLinPlain
import Derived.Test.YtnbbhpihlcglgaaPLinVars
import Derived.Test.YtnbbhpihlcglgaaLinAll
import Derived.Test.YtnbbhpihlcglgaaRowAll
import Derived.Test.YtnbbhpihlcglgaaRatPlain
import Derived.Test.YtnbbhpihlcglgaaLimbAll
import Derived.Test.YtnbbhpihlcglgaaRatAll
import Derived.Test.YtnbbhpihlcglgaaRef5All
/- What comes into the statements on Farkas's numbers. -/
namespace Go.Proofs.Ytnbbhpihlcglgaa
open Go.ChangeShapes Go.WideShapes Go.ChangeAt Go.RowKit Go.Att

theorem sz8_rowN {w : World} {v : Value} {l : List NN} (hv : RdRow 3 RdNp w v l) (n : Nat) : ∀ p ∈ (l.take n).map qN, Sz 8 p := by
  intro p hp
  obtain ⟨q, hq, rfl⟩ := List.mem_map.1 hp
  obtain ⟨i, hi, rfl⟩ := List.getElem_of_mem (List.mem_of_mem_take hq)
  obtain ⟨a, c, rfl, -, -⟩ := hv.shape
  obtain ⟨_, _, cs, -, -, hT, -⟩ := hv.at (by decide) i hi
  obtain ⟨_, _, _, h1, h2⟩ := hT
  exact qOf_sz h1.2 h2.2
theorem smx_rowA {w : World} {v : Value} {l : List NAT} (hv : RdRow 5 RdNA w v l) (n : Nat) : ∀ a ∈ (l.take n).map atA, Smx a.1.1 a.1.2 := by
  intro p hp
  obtain ⟨q, hq, rfl⟩ := List.mem_map.1 hp
  obtain ⟨i, hi, rfl⟩ := List.getElem_of_mem (List.mem_of_mem_take hq)
  obtain ⟨a, c, rfl, -, -⟩ := hv.shape
  obtain ⟨_, _, cs, -, -, ⟨_, _, _, _, _, hT⟩, -⟩ := hv.at (by decide) i hi
  exact tL_sm hT
theorem atoms_in {w : World} {v : Value} {l : List NAT} (hb : ∀ p ∈ l, bA p ≤ 1048576) (h : RdRow 5 RdNA w v l) : Calls Try.prog 54 #[v] w (Gives w fun v' w' => RdRow 5 OwnA w' v' ((l.take 10).map atA)) :=
  (atoms_any h fun p hp => by
    have := hb p hp
    unfold bA at this
    exact ⟨fun t ht => by
      have h2 := mxl_in ht
      unfold bN at h2
      exact ⟨by omega, by omega⟩, by
      unfold bN at this
      exact ⟨by omega, by omega⟩⟩).mono fun _ _ ⟨v, e, b, o⟩ => ⟨v, e, b, OwnRow.rd o⟩
theorem rats_in {w : World} {v : Value} {l : List NN} (hb : ∀ p ∈ l, bN p ≤ 1048576) (h : RdRow 3 RdNp w v l) : Calls Try.prog 55 #[v] w (Gives w fun v' w' => RdRow 3 (OwnQp 163) w' v' ((l.take 10).map qN)) :=
  (rats20_any h fun p hp => by
    have := hb p hp
    unfold bN at this
    exact ⟨by omega, by omega⟩).mono fun _ _ ⟨v, e, b, o⟩ => ⟨v, e, b, OwnRow.rd o⟩
theorem nums_in {w : World} {v : Value} {P : List Rat} (hv : RdRow 3 (OwnQp 163) w v P) (hs : ∀ p ∈ P, Sz 20 p) (hl : P.length ≤ 1000) : Calls Try.prog 24 #[v] w (Gives w fun v' w' => RdRow 3 (OwnPp 4) w' v' P) :=
  (nums_any (RdRow.mono hv fun _ _ h => OwnQ.rd h) (fun p hp => (hs p hp).le (by decide)) (by omega)).mono fun _ _ ⟨v, e, b, o⟩ => ⟨v, e, b, OwnRow.rd o⟩
theorem chk20_zero {L : List AT} {P : List Rat} (h : chk20 L P = 0) : L.length = P.length ∧ ¬ (L.zip P).any fbad = true := by
  unfold chk20 at h
  by_cases h1 : L.length = P.length
  · refine ⟨h1, fun h2 => ?_⟩
    rw [if_neg (fun h => h h1), if_pos h2] at h
    exact absurd h (by decide)
  · rw [if_pos h1] at h
    exact absurd h (by decide)
theorem ref_bad {L : List AT} {P : List Rat} {t : Bool} {e : Int} (h0 : chk20 L P ≠ 0) (h : RefV L P t e) : t = false ∧ e = chk20 L P := by
  unfold RefV at h
  unfold chk20 at h0 ⊢
  by_cases h1 : L.length = P.length
  · rw [if_neg (fun h => h h1)] at h h0 ⊢
    by_cases h2 : (L.zip P).any fbad = true
    · rw [if_pos h2] at h ⊢
      exact h
    · rw [if_neg h2] at h0
      exact absurd rfl h0
  · rw [if_pos h1] at h ⊢
    exact h
theorem ref_ok {L : List AT} {P : List Rat} {t : Bool} {e : Int} (h0 : chk20 L P = 0) (h : RefV L P t e) : e = 0 ∧ (t = true ↔ RefD L P) := by
  obtain ⟨h1, h2⟩ := chk20_zero h0
  unfold RefV at h
  rwa [if_neg (fun h => h h1), if_neg h2] at h
end Go.Proofs.Ytnbbhpihlcglgaa

/- What Farkas's numbers refute does not all hold: plain. -/
namespace Go.Proofs.Ytnbbhpihlcglgaa
open Go.RowKit Go.Att

theorem sgge {q : Rat} : 0 ≤ q.num.sign ↔ 0 ≤ q := by rw [Int.sign_nonneg_iff]; exact Rat.num_nonneg
theorem sgle {q : Rat} : q.num.sign ≤ 0 ↔ q ≤ 0 := by
  have h1 : 0 ≤ (0 - q).num ↔ 0 ≤ 0 - q := Rat.num_nonneg
  rw [Rat.le_iff_sub_nonneg q 0, ← h1, show (0 - q).num = -q.num by rw [Rat.sub_eq_add_neg, Rat.zero_add, Rat.neg_num], Int.sign_nonpos_iff]
  omega
theorem sglt {q : Rat} : q.num.sign < 0 ↔ q < 0 := by
  rw [← Rat.not_le, ← sgge]
  omega
theorem sggt {q : Rat} : 0 < q.num.sign ↔ 0 < q := by
  rw [← Rat.not_le, ← sgle]
  omega
end Go.Proofs.Ytnbbhpihlcglgaa

/- farkas.Used -/
namespace Go.Proofs.Ytnbbhpihlcglgaa
open Go.RowKit Go.Att

/-- The places below j whose numbers are not 0. -/
def usd (P : List Rat) : Nat → List Int
  | 0 => []
  | j + 1 => if gt P j = 0 then usd P j else usd P j ++ [(j : Int)]
theorem usd_len (P : List Rat) : ∀ j, (usd P j).length ≤ j
  | 0 => Nat.le_refl _
  | j + 1 => by
    have := usd_len P j
    unfold usd
    split
    · omega
    · rw [List.length_append]; simp; omega
set_option linter.unusedSimpArgs false in
set_option maxHeartbeats 4000000 in
set_option maxRecDepth 100000 in
theorem fused_any {w : World} {v : Value} {P : List Rat} (hv : RdRow 3 (OwnQp 163) w v P) (hl : P.length ≤ 1000) :
    Calls Try.prog 66 #[v] w (Gives w fun v' w' => RdRow 1 IntT w' v' (usd P P.length)) := by
  refine via fun R hR => ?_
  have HP := Lib.hid hv
  obtain ⟨ap, kp, rfl, hpk, hpm⟩ := hv.shape
  unfold maxLen at hpm
  clear hv
  go_enter Try.func66, Try.ntmps66
  go_wp2_with fail
  go_loopw [3, 8] (fun o t wr => ∃ j : Nat, t = .int .i64 j ∧ j ≤ P.length ∧ Ext w wr ∧ Hid (OwnRow 1 IntT 3 w.heap.size wr o (usd P j))) (fun _ t _ => P.length - (intOf t).toNat)
  case atStart => exact ⟨0, rfl, Nat.zero_le _, Ext.refl _, OwnRow.nil _ _ _⟩
  case round =>
    obtain ⟨j, rfl, hj, hx, hO⟩ := hrel
    by_cases hjl : j < P.length
    · have hd : decide ((j : Int) < (P.length : Int)) = true := decide_eq_true (by omega)
      obtain ⟨bP, oP, ps, pa, pl, pk, pa', pl', pk', hpe, hpo, hpq⟩ := HP.out.oq j hjl
      subst hpe
      have hJ1 : IntKind.i64.wrap (j : Int) = (j : Int) := by rw [IntKind.wrap_i64]; omega
      have hJ2 : (0 : Int) ≤ (j : Int) ∧ (j : Int) < (P.length : Int) := ⟨by omega, by omega⟩
      obtain ⟨u0, u1, u2⟩ := (hpo.ext hx).c3
      have hpq' := hpq.ext hx
      have HUL := Lib.hid (usd_len P j)
      have HUS : Hid (usd P (j + 1) = if gt P j = 0 then usd P j else usd P j ++ [(j : Int)]) := rfl
      obtain ⟨w4, hw4, b4, c4, -, -⟩ := bx1 wr [.bool ps, .slice pa pl pk, .slice pa' pl' pk'] 32
      have HW := Lib.hid hw4
      have C4 := Lib.hid c4
      have HSG : Hid (Calls Try.prog 20 #[.agg #[.bool ps, .slice pa pl pk, .slice pa' pl' pk']] w4 (Gives w4 fun v' _ => v' = .int .i64 (gt P j).num.sign)) := rsign_any (hpq'.rd.ext b4)
      clear hw4 c4 hpo hpq hpq'
      go_upto_region 5 with (fail)
      rw [← HW.out]
      clear HW u0 u1 u2
      obtain ⟨k0, k1, k2⟩ := C4.out.c3
      have hO4 := Lib.hid (hO.out.ext IntT.ext b4)
      have x4 := Ext.trans hx b4
      clear hO
      by_cases hz : gt P j = 0
      · rw [if_pos hz] at HUS
        have hs0 : (gt P j).num.sign = 0 := num_sign_zero.2 hz
        rw [hs0] at HSG
        clear hz hs0
        go_wp2_with fail
        refine HSG.out.mono ?_
        rintro e w5 ⟨_, rfl, b5, rfl⟩
        go_wp2_with fail
        go_roundw
        case rel => exact ⟨j + 1, by go_num, by omega, Ext.trans x4 b5, by rw [HUS.out]; exact hO4.out.ext IntT.ext b5⟩
        case measure => simp [intOf] <;> omega
      · rw [if_neg hz] at HUS
        have hs0 : ((gt P j).num.sign != 0) = true := bneT fun h => hz (num_sign_zero.1 h)
        generalize (gt P j).num.sign = sg at *
        clear hz
        go_wp2_with fail
        refine HSG.out.mono ?_
        rintro e w5 ⟨_, rfl, b5, rfl⟩
        have hO5 := Lib.hid (hO4.out.ext IntT.ext b5)
        have x5 := Ext.trans x4 b5
        go_wp2_with (at_builtin; refine append_rowL (y := (j : Int)) etInt9 (kdI _) (by rfl) _ _ (by rfl) w.heap.size (by rfl) _ (by rfl) hO5.out rfl (show IntT _ _ _ from rfl) (Below.size x5) (by have := HUL.out; omega) (by have := HUL.out; unfold maxLen; omega) ?_; intro v9 w9 o9 b9 g9)
        go_roundw
        case rel => exact ⟨j + 1, by go_num, by omega, Below.trans x5 b9, by rw [HUS.out]; exact o9⟩
        case measure => simp [intOf] <;> omega
    · obtain rfl : j = P.length := by omega
      have hd : decide ((P.length : Int) < (P.length : Int)) = false := decide_eq_false (by omega)
      obtain ⟨ao, ko, rfl, -, -⟩ := hO.out.rd.shape
      go_wp2_with fail
      exact hR.out _ _ (Gives.mk hx hO.out.rd)
end Go.Proofs.Ytnbbhpihlcglgaa

/- One element of a row of three cells each is overwritten. Nothing here names the program. -/
namespace Go.Att
open Go.RowKit

theorem Pw.all {α : Type} {k : Nat} {R : List Value → α → Prop} : ∀ {E : List (List Value)} {l : List α}, Pw k R E l → ∀ c ∈ E, c.length = k
  | _ :: _, _ :: _, h, c, hc => by
    rcases List.mem_cons.1 hc with rfl | hc
    · exact h.1.1
    · exact Pw.all h.2 c hc
  | [], [], _, _, hc => by cases hc
  | [], _ :: _, h, _, _ => h.elim
  | _ :: _, [], h, _, _ => h.elim
theorem Pw.set {α : Type} {k : Nat} {R S : List Value → α → Prop} (hRS : ∀ c a, R c a → S c a) : ∀ {E : List (List Value)} {l : List α}, Pw k R E l → ∀ (i : Nat) {c : List Value} {a : α}, c.length = k → S c a → Pw k S (E.set i c) (l.set i a)
  | [], [], _, _, _, _, _, _ => trivial
  | _ :: _, _ :: _, h, 0, _, _, hc, hS => ⟨⟨hc, hS⟩, h.2.mono hRS⟩
  | _ :: E, _ :: l, h, i + 1, _, _, hc, hS => ⟨⟨h.1.1, hRS _ _ h.1.2⟩, Pw.set hRS (E := E) (l := l) h.2 i hc hS⟩
  | [], _ :: _, h, _, _, _, _, _ => h.elim
  | _ :: _, [], h, _, _, _, _, _ => h.elim
end Go.Att

/- One element of an owned row is overwritten, and the row is owned as before. Nothing here names the program. -/
namespace Go.Att
open Go.RowKit

theorem flatK {k : Nat} {E : List (List Value)} (h : ∀ c ∈ E, c.length = k) : E.flatten.length = E.length * k ∧ ∀ i j, i < E.length → j < k → E.flatten[i * k + j]? = (gt E i)[j]? := by
  have hp : Pw k (fun _ (_ : Unit) => True) E (E.map fun _ => ()) := by
    induction E with
    | nil => trivial
    | cons c E ih => exact ⟨⟨h c List.mem_cons_self, trivial⟩, ih fun d hd => h d (List.mem_cons_of_mem _ hd)⟩
  refine ⟨by rw [hp.flat, List.length_map], fun i j hi hj => ?_⟩
  induction E generalizing i with
  | nil => simp at hi
  | cons c E ih =>
    have hc := h c List.mem_cons_self
    cases i with
    | zero =>
      rw [Nat.zero_mul, Nat.zero_add, List.flatten_cons, List.getElem?_append_left (by omega)]
      rfl
    | succ i =>
      have := ih (fun d hd => h d (List.mem_cons_of_mem _ hd)) hp.2 i (by simpa using hi)
      rw [Nat.succ_mul, List.flatten_cons, List.getElem?_append_right (by omega), show i * k + k + j - c.length = i * k + j by omega, this]
      rfl
theorem putL_cur {c : Nat} {t : TypeId} : ∀ (l : List Value) {w : World} {cs : Array Value} (i : Nat), w.heap[c]? = some (.cells cs t (0, 0)) → i + l.length ≤ cs.size →
    ∃ cs' : Array Value, (Att.putL w c i l).heap[c]? = some (.cells cs' t (0, 0)) ∧ cs'.size = cs.size ∧ (∀ j, j < i → cs'[j]? = cs[j]?) ∧ (∀ j, j < l.length → cs'[i + j]? = l[j]?) ∧ ∀ j, i + l.length ≤ j → cs'[j]? = cs[j]?
  | [], _, cs, _, h, _ => ⟨cs, h, rfl, fun _ _ => rfl, fun j hj => absurd hj (Nat.not_lt_zero _), fun _ _ => rfl⟩
  | v :: l, w, cs, i, h, hl => by
    have h0 := heap_setCell_same w c i _ t v h
    have hs : i < cs.size := by simp at hl; omega
    obtain ⟨cs', h1, h2, h3, h4, h5⟩ := putL_cur l (i + 1) h0 (by simp at hl ⊢; omega)
    refine ⟨cs', h1, by rw [h2]; simp, fun j hj => ?_, fun j hj => ?_, fun j hj => ?_⟩
    · rw [h3 j (by omega), Array.getElem?_setIfInBounds_ne (by omega)]
    · cases j with
      | zero =>
        rw [Nat.add_zero, h3 i (by omega), Array.getElem?_setIfInBounds_self_of_lt hs]
        rfl
      | succ j =>
        have := h4 j (by simpa using hj)
        rw [show i + (j + 1) = i + 1 + j by omega, this]
        rfl
    · rw [h5 j (by simp at hj ⊢; omega), Array.getElem?_setIfInBounds_ne (by simp at hj; omega)]
section
variable {α : Type} {k : Nat} {T : World → Value → α → Prop} {t : TypeId} {B : Nat} {w : World}
/-- Where an owned row lies. -/
theorem OwnRow.base {a : Option Addr} {n cap : Nat} {l : List α} (h : OwnRow k T t B w (.slice a n cap) l) (hl : 0 < l.length) (hk : 0 < k) : ∃ g, a = some ⟨g, 0, none⟩ ∧ B ≤ g ∧ l.length ≤ cap ∧ Rt w g (cap * k) t := by
  obtain ⟨E, ⟨h1, h2⟩, hp⟩ := h
  rcases h2 with ⟨-, h2⟩ | ⟨g, cap', cur, hv, hb, hg, hnc, hcm, hcs, ht⟩
  · rw [h2] at h1
    have : 0 < l.length * k := Nat.mul_pos hl hk
    simp at h1
    omega
  · simp only [Value.slice.injEq] at hv
    obtain ⟨rfl, rfl, rfl⟩ := hv
    exact ⟨g, rfl, hb, hnc, cur, hcs, hg⟩
/-- One cell of an owned row may be read and written. -/
theorem Rt.may {g m : Nat} (h : Rt w g m t) (j : Nat) (hj : j < m) : (∃ u, w.cell? ⟨g, j, none⟩ = some u) ∧ w.frozen? ⟨g, j, none⟩ = false := by
  obtain ⟨cs, hs, hg⟩ := h
  refine ⟨⟨cs[j], ?_⟩, frozen_of_row w g _ _ t hg⟩
  rw [cell_of_row w g _ _ t (0, 0) hg]
  exact Array.getElem?_eq_getElem _
theorem Rt.may3 {g m : Nat} (h : Rt w g m t) (o : Nat) (hj : o + 3 ≤ m) : ∃ u0 u1 u2, w.cell? ⟨g, o, none⟩ = some u0 ∧ w.cell? ⟨g, o + 1, none⟩ = some u1 ∧ w.cell? ⟨g, o + 2, none⟩ = some u2 ∧ w.frozen? ⟨g, o, none⟩ = false ∧ w.frozen? ⟨g, o + 1, none⟩ = false ∧ w.frozen? ⟨g, o + 2, none⟩ = false := by
  obtain ⟨⟨u0, h0⟩, g0⟩ := h.may o (by omega)
  obtain ⟨⟨u1, h1⟩, g1⟩ := h.may (o + 1) (by omega)
  obtain ⟨⟨u2, h2⟩, g2⟩ := h.may (o + 2) (by omega)
  exact ⟨u0, u1, u2, h0, h1, h2, g0, g1, g2⟩
theorem OwnRow.setL {g n cap : Nat} {l : List α} (h : OwnRow k T t B w (.slice (some ⟨g, 0, none⟩) n cap) l) (i : Nat) (hi : i < l.length) {cs : List Value} (hcs : cs.length = k) {q : α} (hst : ∀ v b, T w v b → T (Att.putL w g (i * k) cs) v b)
    (hq : T (Att.putL w g (i * k) cs) (.agg cs.toArray) q) : OwnRow k T t B (Att.putL w g (i * k) cs) (.slice (some ⟨g, 0, none⟩) n cap) (l.set i q) := by
  obtain ⟨E, ⟨h1, h2⟩, hp⟩ := h
  have hl := hp.len
  have hEl := hp.all
  obtain ⟨f1, f2⟩ := flatK hEl
  rcases h2 with ⟨h2, -⟩ | ⟨g', cap', cur, hv, hb, hg, hnc, hcm, hcz, ht⟩
  · exact absurd h2 (by simp)
  · simp only [Value.slice.injEq, Option.some.injEq, Addr.mk.injEq, and_true] at hv
    obtain ⟨rfl, rfl, rfl⟩ := hv
    have hik : i * k + k ≤ l.length * k := by rw [← Nat.succ_mul]; exact Nat.mul_le_mul_right k hi
    have hck : l.length * k ≤ cap * k := Nat.mul_le_mul_right k hnc
    obtain ⟨cs', e1, e2, e3, e4, e5⟩ := putL_cur cs (i * k) hg (by omega)
    have hp' := Pw.set (S := fun c a => T (Att.putL w g (i * k) cs) (.agg c.toArray) a) (fun c a h => hst _ _ h) hp i (c := cs) (a := q) hcs hq
    obtain ⟨f1', f2'⟩ := flatK hp'.all
    rw [List.length_set] at f1' f2'
    have hc : ∀ m, m < l.length * k → cur[m]? = E.flatten[m]? := fun m hm => by
      rw [← ht, List.getElem?_take, if_pos (by omega)]
      simp
    refine ⟨E.set i cs, ⟨by rw [f1', List.length_set, hl], .inr ⟨g, cap, cs', by rw [List.length_set], hb, e1, by rw [List.length_set]; exact hnc, hcm, by rw [e2]; exact hcz, ?_⟩⟩, hp'⟩
    rw [List.length_set]
    apply List.ext_getElem?
    intro m
    by_cases hm : m < l.length * k
    · rw [List.getElem?_take, if_pos hm]
      have hk : 0 < k := by
        rcases Nat.eq_zero_or_pos k with h | h
        · rw [h] at hm; simp at hm
        · exact h
      have hmd : m = m / k * k + m % k := by rw [Nat.mul_comm]; exact (Nat.div_add_mod m k).symm
      have hml : m % k < k := Nat.mod_lt _ hk
      have hmq : m / k < E.length := by
        rw [hl]
        exact Nat.div_lt_of_lt_mul (by rw [Nat.mul_comm]; exact hm)
      have h6 : (E.set i cs).flatten[m]? = (gt (E.set i cs) (m / k))[m % k]? := by
        have h7 := f2' (m / k) (m % k) hmq hml
        rwa [← hmd] at h7
      rw [h6, gt_set (by omega)]
      show cs'.toList[m]? = _
      rw [Array.getElem?_toList]
      by_cases hmi : m / k = i
      · rw [if_pos hmi]
        have h8 := e4 (m % k) (by omega)
        rw [← hmi, ← hmd] at h8
        exact h8
      · rw [if_neg hmi]
        have h9 : cs'[m]? = cur[m]? := by
          rcases Nat.lt_or_ge m (i * k) with h | h
          · exact e3 m h
          · refine e5 m ?_
            rw [hcs]
            refine Classical.byContradiction fun h10 => hmi ?_
            have h11 : m < (i + 1) * k := by rw [Nat.succ_mul]; omega
            have h12 : m / k < i + 1 := Nat.div_lt_of_lt_mul (by rw [Nat.mul_comm]; exact h11)
            have h13 : i ≤ m / k := (Nat.le_div_iff_mul_le hk).2 h
            omega
        rw [h9, hc m hm]
        have h7 := f2 (m / k) (m % k) hmq hml
        rwa [← hmd] at h7
    · rw [List.getElem?_eq_none (by rw [List.length_take]; omega), List.getElem?_eq_none (by rw [f1', hl]; omega)]
end
end Go.Att

/- A whole row is appended to an owned one. Nothing here names the program. -/
namespace Go.Att
open Go.RowKit

theorem Pw.ones {α : Type} {k : Nat} {R : List Value → α → Prop} (hR : ∀ c a, R c a → ∀ u ∈ c, u.oneCell' = true) : ∀ {E : List (List Value)} {l : List α}, Pw k R E l → ∀ u ∈ E.flatten, u.oneCell' = true
  | [], [], _, u, hu => by simp at hu
  | c :: _, _ :: _, h, u, hu => by
    rw [List.flatten_cons] at hu
    rcases List.mem_append.1 hu with hu | hu
    · exact hR _ _ h.1.2 u hu
    · exact Pw.ones hR h.2 u hu
  | [], _ :: _, h, _, _ => h.elim
  | _ :: _, [], h, _, _ => h.elim
theorem append_rowA {α : Type} {P : Program} {w : World} {o : Oper} {a : Act} {K : Act → World → Prop} {Q : Exit → Act → World → Prop} {t e : TypeId} {z : Value} {size bytes : Nat} (ET : ElemT P t e z size bytes) {T : World → Value → α → Prop} (hT : Kd e T)
    (s x : Operand) (ho : o.op = .call { callee := .builtin .append, args := #[s, x], argTypes := #[t, t] }) (B : Nat) {v : Value} {l m : List α} (hs : a.eval s = v)
    (hown : OwnRow size T e B w v l) {v2 : Value} (hx : a.eval x = v2) (hr : RdRow size T w v2 m) (hl : (l.length + m.length) * bytes ≤ 140737488355328) (hm : l.length + m.length ≤ maxLen) (hB : B ≤ w.heap.size)
    (h : ∀ v' w', OwnRow size T e B w' v' (l ++ m) → Below B w w' → w.grownBy w' v.ownBlock → K (a.put o.dst v') w') : o.wp P a w K Q := by
  obtain ⟨E, hE, hP⟩ := hown
  obtain ⟨F, hF, hPF⟩ := hr
  refine append_rdK ET s x ho B hs hE hx hF (hPF.ones fun c a h => hT.one h) hl hm hB ?_
  intro v' w' o' b' g'
  refine h v' w' ⟨E ++ F, ?_, (hP.mono fun _ _ h => hT.grown h hE g').app (hPF.mono fun _ _ h => hT.grown h hE g')⟩ b' g'
  rw [List.length_append, List.flatten_append]
  exact o'
/-- .. at the list of a plain region. -/
theorem append_rowAL {α : Type} {P : Program} {w : World} {ops : Array Oper} {rest : List Oper} {o : Oper} {a : Act} {Q : Exit → Act → World → Prop} {t e : TypeId} {z : Value} {size bytes : Nat} (ET : ElemT P t e z size bytes) {T : World → Value → α → Prop} (hT : Kd e T)
    (hgd : Region.wanted o (yielded ops a.tmps) = true) (s x : Operand) (ho : o.op = .call { callee := .builtin .append, args := #[s, x], argTypes := #[t, t] }) (B : Nat) {v : Value} {l m : List α} (hs : a.eval s = v)
    (hown : OwnRow size T e B w v l) {v2 : Value} (hx : a.eval x = v2) (hr : RdRow size T w v2 m) (hl : (l.length + m.length) * bytes ≤ 140737488355328) (hm : l.length + m.length ≤ maxLen) (hB : B ≤ w.heap.size)
    (h : ∀ v' w', OwnRow size T e B w' v' (l ++ m) → Below B w w' → w.grownBy w' v.ownBlock → wpList P ops Q rest (a.put o.dst v') w') : wpList P ops Q (o :: rest) a w :=
  wpList_want hgd fun _ hK => append_rowA ET hT s x ho B hs hown hx hr hl hm hB fun v' w' a1 a2 a3 => hK _ _ (h v' w' a1 a2 a3)
end Go.Att

/- rat.Abs -/
namespace Go.Att
/-- The size. -/
@[irreducible] def absQ (q : Rat) : Rat := mkQ false q.num.natAbs q.den
theorem absQ_abs (q : Rat) : (absQ q).num.natAbs = q.num.natAbs := by unfold absQ; rw [mkQ_abs _ _ _ q.den_nz, show Nat.gcd q.num.natAbs q.den = 1 from q.reduced, Nat.div_one]
theorem absQ_den (q : Rat) : (absQ q).den = q.den := by unfold absQ; rw [mkQ_den _ _ _ q.den_nz, show Nat.gcd q.num.natAbs q.den = 1 from q.reduced, Nat.div_one]
theorem absQ_neg (q : Rat) : decide ((absQ q).num < 0) = false := by unfold absQ; rw [mkQ_neg _ _ _ q.den_nz]; rfl
theorem Sz.absQ {L : Nat} {q : Rat} (h : Sz L q) : Sz L (absQ q) := ⟨by rw [absQ_abs]; exact h.1, by rw [absQ_den]; exact h.2⟩
end Go.Att
namespace Go.Proofs.Ytnbbhpihlcglgaa
open Go.RowKit Go.Att

theorem rabs_any {w : World} {v : Value} {q : Rat} (hq : RdQ w v q) :
    Calls Try.prog 68 #[v] w (Gives w fun v' w' => RdQ w' v' (absQ q)) := by
  refine via fun R hR => ?_
  have hs := absQ_neg q
  have ha := absQ_abs q
  have hb := absQ_den q
  generalize absQ q = r at *
  obtain ⟨n, d, rfl, hn, hd⟩ := hq
  have HN := Lib.hid hn
  have HD := Lib.hid hd
  have HT : Hid (false = decide (r.num < 0)) := hs.symm
  have HA := Lib.hid ha
  have HB := Lib.hid hb
  obtain ⟨a, c, rfl, -, -, -, -⟩ := HN.out.1.shape
  obtain ⟨a', c', rfl, -, -, -, -⟩ := HD.out.1.shape
  clear hn hd hs ha hb
  go_enter Try.func68, Try.ntmps68
  go_wp2_with fail
  refine bodyPost_ret (v := .agg #[.bool false, .slice a (limbs q.num.natAbs).length c, .slice a' (dens q.den).length c']) (by simp [results, Try.results68, go_sem]) rfl ?_
  have xx : Ext w ((w.alloc (.cells #[.bool false, .slice a (limbs q.num.natAbs).length c, .slice a' (dens q.den).length c'] 32)).alloc (.cells #[.bool false, .slice a (limbs q.num.natAbs).length c, .slice a' (dens q.den).length c'] 32)) := (Ext.alloc _ _).trans (Ext.alloc _ _)
  exact hR.out _ _ (Gives.mk xx ⟨_, _, agg_eq HT.out, by rw [HA.out]; exact HN.out.ext xx, by rw [HB.out]; exact HD.out.ext xx⟩)
end Go.Proofs.Ytnbbhpihlcglgaa

/- farkas.Least -/
namespace Go.Proofs.Ytnbbhpihlcglgaa
open Go.RowKit Go.Att

/-- What the numbers are divided by, upside down. -/
def lby : List Rat → Rat
  | [] => 1
  | t :: P => if t = 0 then lby P else (absQ t)⁻¹
theorem lby_take {P : List Rat} {j : Nat} (hj : j < P.length) (h : ∀ p ∈ P.take j, p = 0) (hn : gt P j ≠ 0) : lby P = (absQ (gt P j))⁻¹ := by
  induction P generalizing j with
  | nil => simp at hj
  | cons t P ih =>
    unfold lby
    cases j with
    | zero => exact if_neg hn
    | succ j =>
      rw [if_pos (h t (by simp)), ih (by simpa using hj) (fun p hp => h p (by simp [hp])) hn]
      rfl
theorem lby_zero {P : List Rat} (h : ∀ p ∈ P, p = 0) : lby P = 1 := by
  induction P with
  | nil => rfl
  | cons t P ih =>
    unfold lby
    rw [if_pos (h t List.mem_cons_self), ih fun p hp => h p (List.mem_cons_of_mem _ hp)]
theorem map_lby_zero {P : List Rat} (h : ∀ p ∈ P, p = 0) : P.map (· * lby P) = P := by
  rw [lby_zero h]
  conv => rhs; rw [← List.map_id P]
  exact List.map_congr_left fun q _ => Rat.mul_one q
/-- The first i numbers multiplied. -/
def part (P : List Rat) (r : Rat) (i : Nat) : List Rat := P.mapIdx fun k q => if k < i then q * r else q
theorem part_len (P : List Rat) (r : Rat) (i : Nat) : (part P r i).length = P.length := by unfold part; rw [List.length_mapIdx]
theorem part_get (P : List Rat) (r : Rat) (i k : Nat) (hk : k < (part P r i).length) : (part P r i)[k] = if k < i then gt P k * r else gt P k := by
  rw [gt_lt (by rw [part_len] at hk; exact hk)]
  simp only [part, List.getElem_mapIdx]
theorem part_zero (P : List Rat) (r : Rat) : part P r 0 = P := by
  refine List.ext_getElem (part_len _ _ _) fun k h1 h2 => ?_
  rw [part_get, if_neg (Nat.not_lt_zero _), gt_lt h2]
theorem part_all (P : List Rat) (r : Rat) : part P r P.length = P.map (· * r) := by
  refine List.ext_getElem (by rw [part_len, List.length_map]) fun k h1 h2 => ?_
  have h3 : k < P.length := by rw [part_len] at h1; exact h1
  rw [part_get, if_pos h3, List.getElem_map, gt_lt h3]
theorem part_at {P : List Rat} {r : Rat} {i : Nat} (hi : i < P.length) : gt (part P r i) i = gt P i := by
  have h1 : i < (part P r i).length := by rw [part_len]; exact hi
  rw [gt_lt h1, part_get, if_neg (Nat.lt_irrefl _)]
theorem part_set {P : List Rat} {r : Rat} {i : Nat} (_hi : i < P.length) : (part P r i).set i (gt P i * r) = part P r (i + 1) := by
  refine List.ext_getElem (by rw [List.length_set, part_len, part_len]) fun j h1 h2 => ?_
  rw [List.getElem_set, part_get]
  by_cases hj : i = j
  · subst hj
    rw [if_pos rfl, part_get, if_pos (by omega)]
  · rw [if_neg hj, part_get]
    by_cases hlt : j < i
    · rw [if_pos hlt, if_pos (by omega)]
    · rw [if_neg hlt, if_neg (by omega)]
theorem etQL : ElemT Try.prog 27 32 (.agg #[.bool false, .slice none 0 0, .slice none 0 0]) 3 56 := ElemT.mk' Try.underlying27 (by kernel_rfl) rfl (by decide)
set_option linter.unusedSimpArgs false in
set_option maxHeartbeats 8000000 in
set_option maxRecDepth 100000 in
theorem fleast_any {w : World} {v : Value} {P : List Rat} (hv : RdRow 3 (OwnQp 163) w v P) (hP : ∀ p ∈ P, Sz 8 p) (hl : P.length ≤ 1000) :
    Calls Try.prog 65 #[v] w (Gives w fun v' w' => RdRow 3 (OwnQp 163) w' v' (P.map (· * lby P))) := by
  refine via fun R hR => ?_
  have HV := Lib.hid hv
  have HP := Lib.hid hP
  obtain ⟨ap, kp, rfl, hpk, hpm⟩ := hv.shape
  clear hv hP
  go_enter Try.func65, Try.ntmps65
  go_wp2_with (at_builtin; refine append_rowAL (l := []) (m := P) etQL (kdQ (by decide)) (by rfl) _ _ (by rfl) w.heap.size (by rfl) (OwnRow.nil _ _ _) (by rfl) HV.out (by simp; omega) (by unfold maxLen; simp; omega) (Nat.le_refl _) ?_; intro v1 w1 o1 b1 g1)
  rw [List.nil_append] at o1
  have O1 := Lib.hid o1
  obtain ⟨ao, ko, rfl, -, -⟩ := o1.rd.shape
  clear o1 g1
  have b01 : Ext w w1 := b1
  clear b1
  go_wp2_with fail
  go_loopw [13] (fun t wr => ∃ j : Nat, t = .int .i64 j ∧ j ≤ P.length ∧ Ext w1 wr ∧ Hid (∀ p ∈ P.take j, p = 0)) (fun t _ => P.length - (intOf t).toNat)
  case atStart => exact ⟨0, rfl, Nat.zero_le _, Ext.refl _, fun p hp => by rw [List.take_zero] at hp; cases hp⟩
  case round =>
    obtain ⟨j, rfl, hj, hx, hZ⟩ := hrel
    by_cases hjl : j < P.length
    · have hd : decide ((j : Int) < (P.length : Int)) = true := decide_eq_true (by omega)
      obtain ⟨bP, oP, ps, pa, pl, pk, pa', pl', pk', hpe, hpo, hpq⟩ := HV.out.oq j hjl
      subst hpe
      have hJ1 : IntKind.i64.wrap (j : Int) = (j : Int) := by rw [IntKind.wrap_i64]; omega
      have hJ2 : (0 : Int) ≤ (j : Int) ∧ (j : Int) < (P.length : Int) := ⟨by omega, by omega⟩
      have b0r := Ext.trans b01 hx
      obtain ⟨u0, u1, u2⟩ := (hpo.ext b0r).c3
      have HTK : Hid (gt P j = 0 → ∀ p ∈ P.take (j + 1), p = 0) := fun h p hp => by
        rw [← List.take_append_getElem hjl, ← gt_lt hjl] at hp
        rcases List.mem_append.1 hp with hp | hp
        · exact hZ.out p hp
        · rw [List.mem_singleton.1 hp]; exact h
      have HBY : Hid (gt P j ≠ 0 → lby P = (absQ (gt P j))⁻¹) := fun h => lby_take hjl hZ.out h
      have HSZ : Hid (Sz 8 (gt P j)) := HP.out _ (gt_mem' hjl)
      obtain ⟨w2, hw2, b2, c2, -, -⟩ := bx1 wr [.bool ps, .slice pa pl pk, .slice pa' pl' pk'] 32
      have HW := Lib.hid hw2
      have C2 := Lib.hid c2
      have x2 := Ext.trans hx b2
      have HAB : Hid (Calls Try.prog 68 #[.agg #[.bool ps, .slice pa pl pk, .slice pa' pl' pk']] w2 (Gives w2 fun v' w' => RdQ w' v' (absQ (gt P j)))) := rabs_any (hpq.rd.ext (Ext.trans b0r b2))
      clear hw2 c2 hpo hpq
      generalize gt P j = q at *
      go_upto_region 5 with (fail)
      rw [← HW.out]
      clear HW u0 u1 u2
      obtain ⟨k0, k1, k2⟩ := C2.out.c3
      go_wp2_with fail
      refine HAB.out.mono ?_
      rintro e w3 ⟨v3, rfl, b3, o3⟩
      have O3 := Lib.hid o3
      clear o3 k0 k1 k2 HAB
      by_cases hq0 : q = 0
      · have HT := Lib.hid (HTK.out hq0)
        have hn0 : (absQ q).num = 0 := by
          have := absQ_abs q
          rw [hq0] at this ⊢
          exact Int.natAbs_eq_zero.1 (by rw [this]; rfl)
        have HIN := Lib.hid (rinv_no O3.out hn0)
        clear hq0 hn0
        go_wp2_with fail
        refine HIN.out.mono ?_
        rintro e w4 ⟨_, rfl, b4, rfl⟩
        go_wp2_with fail
        go_roundw
        case rel => exact ⟨j + 1, by go_num, by omega, Ext.trans x2 (Ext.trans b3 (Ext.trans b4 (Ext.alloc _ _))), HT.out⟩
        case measure => simp [intOf] <;> omega
      · have HQB := Lib.hid (HBY.out hq0)
        have hn0 : (absQ q).num ≠ 0 := fun h => hq0 (by
          have h2 := absQ_abs q
          rw [h] at h2
          have h3 : q.num = 0 := by simpa using h2.symm
          exact Rat.num_eq_zero.1 h3)
        have HIN := Lib.hid (rinv_any O3.out ((Sz.absQ HSZ.out).le (by decide)) hn0)
        have HZR : Hid (Sz 9 (absQ q)⁻¹) := (Sz.absQ HSZ.out).inv
        clear hq0 hn0
        generalize (absQ q)⁻¹ = r at *
        go_wp2_with fail
        refine HIN.out.mono ?_
        rintro e w4 ⟨_, rfl, b4, o, rfl, o4⟩
        obtain ⟨rs, ra, rl, rk, ra', rl', rk', rfl, O4⟩ := o4.op
        clear o4 HIN O3
        obtain ⟨w5, hw5, b5, c5, -, -⟩ := bx1 w4 [.bool rs, .slice ra rl rk, .slice ra' rl' rk'] 32
        have HW := Lib.hid hw5
        have C5 := Lib.hid c5
        have x5 : Ext w1 w5 := Ext.trans x2 (Ext.trans b3 (Ext.trans b4 b5))
        have OR := Lib.hid (O4.out.ext b5)
        have OO := Lib.hid (O1.out.ext OwnQ.ext x5)
        obtain ⟨g, hg, hBg, hcap, hrt⟩ := OO.out.base (by omega) (by decide)
        subst hg
        have RT := Lib.hid hrt
        have HNE : Hid (w4.heap.size ≠ g) := by
          have h1 := (O1.out.ext OwnQ.ext (Ext.trans x2 (Ext.trans b3 b4))).base (by omega) (by decide)
          obtain ⟨g', hg', -, -, h2⟩ := h1
          simp only [Option.some.injEq, Addr.mk.injEq, and_true] at hg'
          subst hg'
          exact fun h => absurd h2.lt (by omega)
        have hsz5 : w4.heap.size < w5.heap.size := C5.out.lt
        clear hw5 c5 hrt O4 O1
        go_upto_region 6 with (fail)
        rw [← HW.out]
        clear HW
        have b05 : Ext w w5 := Ext.trans b01 x5
        go_wp2_with fail
        go_loopw [26] (fun t wx => ∃ i : Nat, t = .int .i64 i ∧ i ≤ P.length ∧ Ext w wx ∧ Hid (Bx wx w4.heap.size [.bool rs, .slice ra rl rk, .slice ra' rl' rk']) ∧ Hid (OwnQ 163 0 wx (.agg #[.bool rs, .slice ra rl rk, .slice ra' rl' rk']) r) ∧ Hid (OwnRow 3 (OwnQp 163) 32 w.heap.size wx (.slice (some ⟨g, 0, none⟩) P.length ko) (part P r i))) (fun t _ => P.length - (intOf t).toNat)
        case atStart => exact ⟨0, rfl, Nat.zero_le _, b05, C5.out, OR.out.mono (Nat.zero_le _), by rw [part_zero]; exact OO.out⟩
        case round =>
          clear C5 OR OO RT
          obtain ⟨i, rfl, hi, hx6, hC, hR6, hO⟩ := hrel
          by_cases hil : i < P.length
          · have hd2 : decide ((i : Int) < (P.length : Int)) = true := decide_eq_true (by omega)
            have hI1 : IntKind.i64.wrap (i : Int) = (i : Int) := by rw [IntKind.wrap_i64]; omega
            have hI2 : (0 : Int) ≤ (i : Int) ∧ (i : Int) < (P.length : Int) := ⟨by omega, by omega⟩
            obtain ⟨g', hg', -, -, hrt⟩ := hO.out.base (by rw [part_len]; omega) (by decide)
            simp only [Option.some.injEq, Addr.mk.injEq, and_true] at hg'
            subst hg'
            have RT := Lib.hid hrt
            obtain ⟨bQ, oQ, qs, qa, ql, qk, qa', ql', qk', hqe, hqo, hqq⟩ := hO.out.rd.oq i (by rw [part_len]; exact hil)
            simp only [Option.some.injEq, Addr.mk.injEq, and_true] at hqe
            obtain ⟨rfl, rfl⟩ := hqe
            rw [part_at hil] at hqq
            rw [Nat.zero_add] at hqo
            have CQ := Lib.hid hqo
            have QQ := Lib.hid hqq
            have HSI : Hid (Sz 8 (gt P i)) := HP.out _ (gt_mem' hil)
            have HPS := Lib.hid (part_set (r := r) hil)
            clear hqo hqq hrt
            generalize gt P i = t at *
            obtain ⟨w7, hw7⟩ : ∃ w0 : World, w0 = wr := ⟨_, rfl⟩
            subst hw7
            go_upto_region 10 with (fail)
            have b8 := drew_ext w7
            have XE := b8
            refine wp_region_noPanic ?_
            refine wp_region_last_drew (st := 9) (S := fun w' => (w'.cell? ⟨g, i * 3, none⟩ = some (.bool qs) ∧ w'.cell? ⟨g, i * 3 + 1, none⟩ = some (.slice qa ql qk) ∧ w'.cell? ⟨g, i * 3 + 2, none⟩ = some (.slice qa' ql' qk')) ∧ (w'.cell? ⟨w4.heap.size, 0, none⟩ = some (.bool rs) ∧ w'.cell? ⟨w4.heap.size, 1, none⟩ = some (.slice ra rl rk) ∧ w'.cell? ⟨w4.heap.size, 2, none⟩ = some (.slice ra' rl' rk'))) (by kernel_rfl) (⟨(CQ.out.ext XE).c3, (hC.out.ext XE).c3⟩) (fun hHeld => ?_)
            refine wpAnyL_take (i := 0) (v := ?_) rfl (by kernel_rfl) (by kernel_rfl) (by kernel_rfl) (by kernel_rfl) (fun _ _ _ h => h) (Or.inl ⟨by rfl, fun w0 hSw => ?_⟩) hHeld ?_
            rotate_left
            · (try dsimp only at hSw)
              go_simp
              try with_reducible rfl
            simp only [Act.put, List.getElem_toArray, List.getElem_cons_succ, List.getElem_cons_zero, List.setIfInBounds_toArray, List.set_cons_zero, List.set_cons_succ]
            refine wpAnyL_take (i := 1) (v := ?_) rfl (by kernel_rfl) (by kernel_rfl) (by kernel_rfl) (by kernel_rfl) (fun _ _ _ h => h) (Or.inl ⟨by rfl, fun w0 hSw => ?_⟩) hHeld ?_
            rotate_left
            · (try dsimp only at hSw)
              go_simp
              try with_reducible rfl
            simp only [Act.put, List.getElem_toArray, List.getElem_cons_succ, List.getElem_cons_zero, List.setIfInBounds_toArray, List.set_cons_zero, List.set_cons_succ]
            refine wpAnyL_take (i := 2) (v := ?_) rfl (by kernel_rfl) (by kernel_rfl) (by kernel_rfl) (by kernel_rfl) (fun _ _ _ h => h) (Or.inl ⟨by rfl, fun w0 hSw => ?_⟩) hHeld ?_
            rotate_left
            · (try dsimp only at hSw)
              go_simp
              try with_reducible rfl
            simp only [Act.put, List.getElem_toArray, List.getElem_cons_succ, List.getElem_cons_zero, List.setIfInBounds_toArray, List.set_cons_zero, List.set_cons_succ]
            refine wpAnyL_take (i := 3) (v := ?_) rfl (by kernel_rfl) (by kernel_rfl) (by kernel_rfl) (by kernel_rfl) (fun _ _ _ h => h) (Or.inl ⟨by rfl, fun w0 hSw => ?_⟩) hHeld ?_
            rotate_left
            · (try dsimp only at hSw)
              go_simp
              try with_reducible rfl
            simp only [Act.put, List.getElem_toArray, List.getElem_cons_succ, List.getElem_cons_zero, List.setIfInBounds_toArray, List.set_cons_zero, List.set_cons_succ]
            refine wpAnyL_take (i := 4) (v := ?_) rfl (by kernel_rfl) (by kernel_rfl) (by kernel_rfl) (by kernel_rfl) (fun _ _ _ h => h) (Or.inl ⟨by rfl, fun w0 hSw => ?_⟩) hHeld ?_
            rotate_left
            · (try dsimp only at hSw)
              go_simp
              try with_reducible rfl
            simp only [Act.put, List.getElem_toArray, List.getElem_cons_succ, List.getElem_cons_zero, List.setIfInBounds_toArray, List.set_cons_zero, List.set_cons_succ]
            refine wpAnyL_take (i := 5) (v := ?_) rfl (by kernel_rfl) (by kernel_rfl) (by kernel_rfl) (by kernel_rfl) (fun _ _ _ h => h) (Or.inl ⟨by rfl, fun w0 hSw => ?_⟩) hHeld ?_
            rotate_left
            · (try dsimp only at hSw)
              go_simp
              try with_reducible rfl
            simp only [Act.put, List.getElem_toArray, List.getElem_cons_succ, List.getElem_cons_zero, List.setIfInBounds_toArray, List.set_cons_zero, List.set_cons_succ]
            refine wpAnyL_take (i := 6) (v := ?_) rfl (by kernel_rfl) (by kernel_rfl) (by kernel_rfl) (by kernel_rfl) (fun _ _ _ h => h) (Or.inl ⟨by rfl, fun w0 hSw => ?_⟩) hHeld ?_
            rotate_left
            · (try dsimp only at hSw)
              go_simp
              try with_reducible rfl
            simp only [Act.put, List.getElem_toArray, List.getElem_cons_succ, List.getElem_cons_zero, List.setIfInBounds_toArray, List.set_cons_zero, List.set_cons_succ]
            refine wpAnyL_ready (rs := [7]) (by kernel_rfl) (by simp) ?_
            refine AllReadyL.cons (o := _) rfl (fun K hK => ?_) AllReadyL.nil
            go_simp
            go_at_call 29; refine (rmul_any (QQ.out.rd.ext XE) (hR6.out.rd.ext XE) (HSI.out.le (by decide)) (HZR.out.le (by decide))).mono ?_; rintro e w9 ⟨v9, rfl, b9, o9⟩; have O9 := Lib.hid o9; clear o9; (first | have XE := Ext.trans XE b9 | have XE := Ext.trans (Ext.trans XE (Ext.alloc _ _)) b9); obtain ⟨_, _, _, _, _, _, _, rfl, P9⟩ := O9.out.op
            go_wp2_with fail
            refine hK.out _ _ (⟨(CQ.out.ext XE).c3, (hC.out.ext XE).c3⟩) (fun hHeld => ?_)
            clear hK K
            try simp only [Act.put, List.getElem_toArray, List.getElem_cons_succ, List.getElem_cons_zero, List.setIfInBounds_toArray, List.set_cons_zero, List.set_cons_succ]
            obtain ⟨_, _, _, j0, j1, j2, i0, i1, i2⟩ := (RT.out.ext XE).may3 (i * 3) (by omega)
            refine wpAnyL_take (i := 8) (v := ?_) rfl (by kernel_rfl) (by kernel_rfl) (by kernel_rfl) (by kernel_rfl) (fun _ _ _ h => h) (Or.inl ⟨by rfl, fun w0 hSw => ?_⟩) hHeld ?_
            rotate_left
            · (try dsimp only at hSw)
              go_simp
              try with_reducible rfl
            simp only [Act.put, List.getElem_toArray, List.getElem_cons_succ, List.getElem_cons_zero, List.setIfInBounds_toArray, List.set_cons_zero, List.set_cons_succ]
            refine wpAnyL_ready (rs := [9]) (by kernel_rfl) (by simp) ?_
            refine AllReadyL.last (o := _) rfl (fun K hK => ?_)
            go_simp
            refine hK.out _ _ ?_
            clear hK K
            try simp only [Act.put, List.getElem_toArray, List.getElem_cons_succ, List.getElem_cons_zero, List.setIfInBounds_toArray, List.set_cons_zero, List.set_cons_succ]
            refine wpAnyL_done (by kernel_rfl) ?_ _
            refine NoPanic.normal ?_
            go_wp2_with fail
            go_roundw
            case rel => exact ⟨i + 1, by go_num, by omega, putL_below (by omega) [_, _, _] (i * 3) (Ext.trans hx6 XE), (hC.out.ext XE).putL HNE.out (i * 3) [_, _, _], (hR6.out.ext XE).putT (RT.out.ext XE) (by decide) (i * 3) [_, _, _], by
              rw [← HPS.out]
              exact (hO.out.ext OwnQ.ext XE).setL i (by rw [part_len]; exact hil) (cs := [_, _, _]) rfl (fun v b h => OwnQ.putT h (RT.out.ext XE) (by decide) (i * 3) [_, _, _]) ((P9.out.mono (Nat.zero_le _)).putT (RT.out.ext XE) (by decide) (i * 3) [_, _, _])⟩
            case measure => simp [intOf] <;> omega
          · obtain rfl : i = P.length := by omega
            have hd2 : decide ((P.length : Int) < (P.length : Int)) = false := decide_eq_false (by omega)
            rw [part_all] at hO
            go_wp2_with fail
            exact hR.out _ _ (Gives.mk hx6 (by rw [HQB.out]; exact hO.out.rd))
    · obtain rfl : j = P.length := by omega
      have hd : decide ((P.length : Int) < (P.length : Int)) = false := decide_eq_false (by omega)
      rw [List.take_length] at hZ
      go_wp2_with fail
      exact hR.out _ _ (Gives.mk (Ext.trans b01 hx) (by rw [map_lby_zero hZ.out]; exact (O1.out.ext OwnQ.ext hx).rd))
end Go.Proofs.Ytnbbhpihlcglgaa

/- Farkas's numbers divided, and those alone that count: plain. -/
namespace Go.Proofs.Ytnbbhpihlcglgaa
open Go.RowKit Go.Att

theorem sign_same {a b : Int} (h1 : 0 < a.sign ↔ 0 < b.sign) (h2 : a.sign < 0 ↔ b.sign < 0) : a.sign = b.sign := by
  have ha := Int.sign_trichotomy a
  have hb := Int.sign_trichotomy b
  omega
theorem sgn_mul {q r : Rat} (hr : 0 < r) : (q * r).num.sign = q.num.sign := by
  refine sign_same ?_ ?_
  · rw [sggt, sggt]
    constructor
    · intro h
      exact Classical.byContradiction fun hn => by
        have h2 : 0 ≤ (-q) * r := Rat.mul_nonneg (by grind) (by grind)
        grind
    · intro h; exact Rat.mul_pos h hr
  · rw [sglt, sglt]
    constructor
    · intro h
      exact Classical.byContradiction fun hn => by
        have h2 : 0 ≤ q * r := Rat.mul_nonneg (by grind) (by grind)
        grind
    · intro h
      have := Rat.mul_pos (show 0 < -q by grind) hr
      grind
theorem absQ_pos {q : Rat} (h : q ≠ 0) : 0 < (absQ q)⁻¹ := by
  have h1 := absQ_abs q
  have h2 := absQ_neg q
  have h3 : ¬ (absQ q).num < 0 := of_decide_eq_false h2
  have h4 : q.num ≠ 0 := fun h5 => h (Rat.num_eq_zero.1 h5)
  have h5 : 0 < (absQ q).num := by omega
  have h6 : 0 < absQ q := sggt.1 (by rw [Int.sign_eq_one_of_pos h5]; decide)
  exact Rat.inv_pos.2 h6
theorem lby_pos (P : List Rat) : 0 < lby P := by
  induction P with
  | nil => exact (by decide : (0 : Rat) < 1)
  | cons t P ih =>
    unfold lby
    split
    · exact ih
    · exact absQ_pos (by assumption)
def mulr (r : Rat) (z : AZ) : AZ := (z.1, z.2 * r)
theorem zip_mulr (L : List AT) (T : List Rat) (r : Rat) : L.zip (T.map (· * r)) = (L.zip T).map (mulr r) := by
  rw [List.zip_map_right]; rfl
theorem fcf_mulr (r : Rat) (Z : List AZ) (x : Int) : fcf (Z.map (mulr r)) x = r * fcf Z x := by
  induction Z with
  | nil => show (0 : Rat) = r * 0; rw [Rat.mul_zero]
  | cons z Z ih => show (z.2 * r) * cf z.1.1.1 x + fcf (Z.map (mulr r)) x = r * (z.2 * cf z.1.1.1 x + fcf Z x); rw [ih]; grind
theorem fct_mulr (r : Rat) (Z : List AZ) : fct (Z.map (mulr r)) = r * fct Z := by
  induction Z with
  | nil => show (0 : Rat) = r * 0; rw [Rat.mul_zero]
  | cons z Z ih => show (z.2 * r) * z.1.1.2 + fct (Z.map (mulr r)) = r * (z.2 * z.1.1.2 + fct Z); rw [ih]; grind
theorem fst_mulr {r : Rat} (hr : 0 < r) (Z : List AZ) : fst' (Z.map (mulr r)) = fst' Z := by
  induction Z with
  | nil => rfl
  | cons z Z ih => show ((z.1.2 == 2 && decide (0 < (z.2 * r).num.sign)) || fst' (Z.map (mulr r))) = _; rw [ih, sgn_mul hr]; rfl
theorem fbad_mulr {r : Rat} (hr : 0 < r) (z : AZ) : fbad (mulr r z) = fbad z := by
  show (!(decide (1 ≤ z.1.2 ∧ z.1.2 ≤ 3)) || (z.1.2 != 3 && decide ((z.2 * r).num.sign < 0))) = _
  rw [sgn_mul hr]; rfl
theorem chk20_of {L : List AT} {P : List Rat} (h1 : L.length = P.length) (h2 : ∀ z ∈ L.zip P, fbad z = false) : chk20 L P = 0 := by
  unfold chk20
  rw [if_neg (fun h => h h1), if_neg (fun h => by
    obtain ⟨z, h3, h4⟩ := List.any_eq_true.1 h
    rw [h2 z h3] at h4
    cases h4)]
theorem chk20_bad {L : List AT} {P : List Rat} (h : chk20 L P = 0) : ∀ z ∈ L.zip P, fbad z = false := fun z hz => by
  by_cases hb : fbad z = true
  · exact absurd (List.any_eq_true.2 ⟨z, hz, hb⟩) (chk20_zero h).2
  · simpa using hb
/-- Divided numbers show the same. -/
theorem far_least {L : List AT} {T : List Rat} {r : Rat} (hr : 0 < r) (h : chk20 L T = 0) : chk20 L (T.map (· * r)) = 0 ∧ (RefD L (T.map (· * r)) ↔ RefD L T) := by
  refine ⟨chk20_of (by rw [List.length_map]; exact (chk20_zero h).1) (fun z hz => ?_), ?_⟩
  · rw [zip_mulr] at hz
    obtain ⟨y, hy, rfl⟩ := List.mem_map.1 hz
    rw [fbad_mulr hr]
    exact chk20_bad h y hy
  · unfold RefD
    have hc : (fct ((L.zip T).map (mulr r))).num.sign = (fct (L.zip T)).num.sign := by rw [fct_mulr, Rat.mul_comm, sgn_mul hr]
    rw [zip_mulr, hc, fst_mulr hr]
    refine and_congr_left fun _ => ⟨fun h x => ?_, fun h x => by rw [fcf_mulr, h x, Rat.mul_zero]⟩
    have h2 := h x
    rw [fcf_mulr] at h2
    rcases Rat.mul_eq_zero.1 h2 with h3 | h3
    · rw [h3] at hr; exact absurd hr Rat.lt_irrefl
    · exact h3
def sel (Z : List AZ) : List AZ := Z.filter fun z => decide (z.2 ≠ 0)
theorem fcf_sel (Z : List AZ) (x : Int) : fcf (sel Z) x = fcf Z x := by
  induction Z with
  | nil => rfl
  | cons z Z ih =>
    unfold sel at ih ⊢
    by_cases h : z.2 = 0
    · rw [List.filter_cons_of_neg (by simpa using h), ih]
      show _ = z.2 * _ + _
      rw [h, Rat.zero_mul, Rat.zero_add]
    · rw [List.filter_cons_of_pos (by simpa using h)]
      show z.2 * _ + _ = z.2 * _ + _
      rw [ih]
theorem fct_sel (Z : List AZ) : fct (sel Z) = fct Z := by
  induction Z with
  | nil => rfl
  | cons z Z ih =>
    unfold sel at ih ⊢
    by_cases h : z.2 = 0
    · rw [List.filter_cons_of_neg (by simpa using h), ih]
      show _ = z.2 * _ + _
      rw [h, Rat.zero_mul, Rat.zero_add]
    · rw [List.filter_cons_of_pos (by simpa using h)]
      show z.2 * _ + _ = z.2 * _ + _
      rw [ih]
theorem fst_sel (Z : List AZ) : fst' (sel Z) = fst' Z := by
  induction Z with
  | nil => rfl
  | cons z Z ih =>
    unfold sel at ih ⊢
    by_cases h : z.2 = 0
    · rw [List.filter_cons_of_neg (by simpa using h), ih]
      show _ = ((z.1.2 == 2 && decide (0 < z.2.num.sign)) || fst' Z)
      rw [h, show decide (0 < (0 : Rat).num.sign) = false by decide, Bool.and_false, Bool.false_or]
    · rw [List.filter_cons_of_pos (by simpa using h)]
      show (_ || _) = (_ || _)
      rw [ih]
theorem used_sel {L : List AT} {T : List Rat} (hl : L.length = T.length) : ∀ n, n ≤ T.length → (usd T n).map (fun i => (gt L i.toNat, gt T i.toNat)) = sel ((L.zip T).take n)
  | 0, _ => by rw [List.take_zero]; rfl
  | n + 1, h => by
    have ih := used_sel hl n (by omega)
    have h1 : n < L.length := by omega
    rw [zip_snoc h1 (by omega)]
    unfold sel at ih ⊢
    unfold usd
    rw [List.filter_append, ← ih]
    by_cases h0 : gt T n = 0
    · rw [if_pos h0]; simp [h0]
    · rw [if_neg h0, List.map_append]
      simp [h0, gt_lt h1]
theorem used_all {L : List AT} {T : List Rat} (hl : L.length = T.length) : ((usd T T.length).map fun i => gt L i.toNat).zip ((usd T T.length).map fun i => gt T i.toNat) = sel (L.zip T) := by
  rw [List.zip_map', used_sel hl _ (Nat.le_refl _), List.take_of_length_le (by rw [List.length_zip]; omega)]
/-- Those alone that count show the same. -/
theorem far_used {L : List AT} {T : List Rat} (h : chk20 L T = 0) : chk20 ((usd T T.length).map fun i => gt L i.toNat) ((usd T T.length).map fun i => gt T i.toNat) = 0 ∧
    (RefD ((usd T T.length).map fun i => gt L i.toNat) ((usd T T.length).map fun i => gt T i.toNat) ↔ RefD L T) := by
  have hl := (chk20_zero h).1
  refine ⟨chk20_of (by rw [List.length_map, List.length_map]) (fun z hz => ?_), ?_⟩
  · rw [used_all hl] at hz
    exact chk20_bad h z (List.mem_filter.1 hz).1
  · unfold RefD
    rw [used_all hl, fct_sel, fst_sel]
    exact and_congr_left fun _ => ⟨fun h x => by rw [← fcf_sel]; exact h x, fun h x => by rw [fcf_sel]; exact h x⟩
theorem usd_in {T : List Rat} : ∀ n, ∀ i ∈ usd T n, 0 ≤ i ∧ i < (n : Int)
  | 0, i, h => by cases h
  | n + 1, i, h => by
    unfold usd at h
    split at h
    · have := usd_in n i h; omega
    · rcases List.mem_append.1 h with h | h
      · have := usd_in n i h; omega
      · rw [List.mem_singleton.1 h]; omega
theorem usd_pre (T : List Rat) {j : Nat} : ∀ n, j ≤ n → ∃ m, usd T n = usd T j ++ m
  | 0, h => ⟨[], by rw [show j = 0 by omega]; rfl⟩
  | n + 1, h => by
    by_cases hj : j = n + 1
    · exact ⟨[], by rw [hj, List.append_nil]⟩
    · obtain ⟨m, hm⟩ := usd_pre T (j := j) n (by omega)
      rw [show usd T (n + 1) = if gt T n = 0 then usd T n else usd T n ++ [(n : Int)] from rfl]
      split
      · exact ⟨m, hm⟩
      · exact ⟨m ++ [(n : Int)], by rw [hm, List.append_assoc]⟩
/-- A number that counts has its place. -/
theorem usd_next {T : List Rat} {j n : Nat} (hj : j < n) (h : gt T j ≠ 0) : ∃ hc : (usd T j).length < (usd T n).length, (usd T n)[(usd T j).length] = (j : Int) := by
  obtain ⟨m, hm⟩ := usd_pre T (j := j + 1) n hj
  have h1 : usd T (j + 1) = usd T j ++ [(j : Int)] := by
    show (if gt T j = 0 then usd T j else usd T j ++ [(j : Int)]) = _
    rw [if_neg h]
  rw [h1] at hm
  refine ⟨by rw [hm]; simp, ?_⟩
  simp [hm]
/-- What has been found while the first j numbers were looked at. -/
def byAt (T : List Rat) (j : Nat) : Rat := if usd T j = [] then 1 else lby T
theorem usd_nil {T : List Rat} : ∀ j, j ≤ T.length → usd T j = [] → ∀ p ∈ T.take j, p = 0
  | 0, _, _, p, hp => by rw [List.take_zero] at hp; cases hp
  | j + 1, hj, h, p, hp => by
    rw [← List.take_append_getElem (show j < T.length by omega), ← gt_lt (show j < T.length by omega)] at hp
    unfold usd at h
    split at h
    · rcases List.mem_append.1 hp with hp | hp
      · exact usd_nil j (by omega) h p hp
      · rw [List.mem_singleton.1 hp]; assumption
    · simp at h
theorem byAt_end (T : List Rat) : byAt T T.length = lby T := by
  unfold byAt
  split
  · rename_i h
    have := usd_nil _ (Nat.le_refl _) h
    rw [List.take_length] at this
    exact (lby_zero this).symm
  · rfl
theorem byAt_zero {T : List Rat} {j : Nat} (h : gt T j = 0) : byAt T (j + 1) = byAt T j := by
  unfold byAt
  rw [show usd T (j + 1) = usd T j from if_pos h]
theorem byAt_first {T : List Rat} {j : Nat} (hj : j < T.length) (hu : usd T j = []) (h : gt T j ≠ 0) : byAt T (j + 1) = (absQ (gt T j))⁻¹ := by
  unfold byAt
  rw [show usd T (j + 1) = usd T j ++ [(j : Int)] from if_neg h, if_neg (by simp)]
  exact lby_take hj (usd_nil _ (by omega) hu) h
theorem byAt_more {T : List Rat} {j : Nat} (hu : usd T j ≠ []) : byAt T (j + 1) = byAt T j := by
  unfold byAt
  rw [if_neg hu, if_neg]
  intro h
  obtain ⟨m, hm⟩ := usd_pre T (j := j) (j + 1) (by omega)
  rw [hm] at h
  exact hu (List.append_eq_nil_iff.1 h).1
end Go.Proofs.Ytnbbhpihlcglgaa

/- attestref15.Rats, where the answer is yes -/
namespace Go.Proofs.Ytnbbhpihlcglgaa
open Go.RowKit Go.Att

set_option linter.unusedSimpArgs false in
set_option maxHeartbeats 4000000 in
set_option maxRecDepth 100000 in
theorem r15rats_yes {w : World} {va vb : Value} {P : List Rat} (ha : RdRow 3 (OwnPp 4) w va P) (hb : RdRow 3 (OwnPp 4) w vb P) (hP : ∀ p ∈ P, Sb 50000 p) (hl : P.length ≤ 1000) :
    Calls Try.prog 69 #[va, vb] w (Gives w fun v' _ => v' = .bool true) := by
  refine via fun R hR => ?_
  have HA := Lib.hid ha
  have HB := Lib.hid hb
  have HP := Lib.hid hP
  obtain ⟨aa, ka, rfl, -, -⟩ := ha.shape
  obtain ⟨ab, kb, rfl, -, -⟩ := hb.shape
  clear ha hb hP
  go_enter Try.func69, Try.ntmps69
  go_wp2_with fail
  go_loopw [13] (fun t wr => ∃ j : Nat, t = .int .i64 j ∧ j ≤ P.length ∧ Ext w wr) (fun t _ => P.length - (intOf t).toNat)
  case atStart => exact ⟨0, rfl, Nat.zero_le _, Ext.refl _⟩
  case round =>
    obtain ⟨j, rfl, hj, hx⟩ := hrel
    by_cases hjl : j < P.length
    · have hd : decide ((j : Int) < (P.length : Int)) = true := decide_eq_true (by omega)
      obtain ⟨bP, oP, ps, pa, pl, pk, pa', pl', pk', hpe, hpo, hpq⟩ := HA.out.op' j hjl
      subst hpe
      obtain ⟨bQ, oQ, qs, qa, ql, qk, qa', ql', qk', hqe, hqo, hqq⟩ := HB.out.op' j hjl
      subst hqe
      have hJ1 : IntKind.i64.wrap (j : Int) = (j : Int) := by rw [IntKind.wrap_i64]; omega
      have hJ2 : (0 : Int) ≤ (j : Int) ∧ (j : Int) < (P.length : Int) := ⟨by omega, by omega⟩
      have HSZ : Hid (Sb 50000 (gt P j)) := HP.out _ (gt_mem' hjl)
      have HZ : Hid ((gt P j - gt P j).num.sign = 0) := by show _ = _; rw [Rat.sub_self]; rfl
      generalize gt P j = q at *
      obtain ⟨w4, hw4⟩ : ∃ w0 : World, w0 = wr := ⟨_, rfl⟩
      subst hw4
      have CP := Lib.hid (hpo.ext hx)
      have CQ := Lib.hid (hqo.ext hx)
      have QP := Lib.hid (hpq.ext hx)
      have QQ := Lib.hid (hqq.ext hx)
      clear hpo hqo hpq hqq
      go_upto_region 6 with (fail)
      have b5 := drew_ext w4
      have XE := b5
      refine wp_region_noPanic ?_
      refine wp_region_held_drew (S := fun w' => (w'.cell? ⟨bP, oP + j * 3, none⟩ = some (.bool ps) ∧ w'.cell? ⟨bP, oP + j * 3 + 1, none⟩ = some (.slice pa pl pk) ∧ w'.cell? ⟨bP, oP + j * 3 + 2, none⟩ = some (.slice pa' pl' pk')) ∧ (w'.cell? ⟨bQ, oQ + j * 3, none⟩ = some (.bool qs) ∧ w'.cell? ⟨bQ, oQ + j * 3 + 1, none⟩ = some (.slice qa ql qk) ∧ w'.cell? ⟨bQ, oQ + j * 3 + 2, none⟩ = some (.slice qa' ql' qk'))) (by kernel_rfl) (⟨(CP.out.ext XE).c3, (CQ.out.ext XE).c3⟩) (fun hHeld => ?_)
      refine wpAnyH_take (i := 0) (v := ?_) rfl (by kernel_rfl) (by kernel_rfl) (by kernel_rfl) (fun _ _ _ h => h) (Or.inl ⟨by rfl, fun w0 hSw => ?_⟩) hHeld ?_
      rotate_left
      · (try dsimp only at hSw)
        go_simp
        try with_reducible rfl
      simp only [Act.put, List.getElem_toArray, List.getElem_cons_succ, List.getElem_cons_zero, List.setIfInBounds_toArray, List.set_cons_zero, List.set_cons_succ]
      refine wpAnyH_take (i := 1) (v := ?_) rfl (by kernel_rfl) (by kernel_rfl) (by kernel_rfl) (fun _ _ _ h => h) (Or.inl ⟨by rfl, fun w0 hSw => ?_⟩) hHeld ?_
      rotate_left
      · (try dsimp only at hSw)
        go_simp
        try with_reducible rfl
      simp only [Act.put, List.getElem_toArray, List.getElem_cons_succ, List.getElem_cons_zero, List.setIfInBounds_toArray, List.set_cons_zero, List.set_cons_succ]
      refine wpAnyH_take (i := 2) (v := ?_) rfl (by kernel_rfl) (by kernel_rfl) (by kernel_rfl) (fun _ _ _ h => h) (Or.inl ⟨by rfl, fun w0 hSw => ?_⟩) hHeld ?_
      rotate_left
      · (try dsimp only at hSw)
        go_simp
        try with_reducible rfl
      simp only [Act.put, List.getElem_toArray, List.getElem_cons_succ, List.getElem_cons_zero, List.setIfInBounds_toArray, List.set_cons_zero, List.set_cons_succ]
      refine wpAnyH_take (i := 3) (v := ?_) rfl (by kernel_rfl) (by kernel_rfl) (by kernel_rfl) (fun _ _ _ h => h) (Or.inl ⟨by rfl, fun w0 hSw => ?_⟩) hHeld ?_
      rotate_left
      · (try dsimp only at hSw)
        go_simp
        try with_reducible rfl
      simp only [Act.put, List.getElem_toArray, List.getElem_cons_succ, List.getElem_cons_zero, List.setIfInBounds_toArray, List.set_cons_zero, List.set_cons_succ]
      refine wpAnyH_take (i := 4) (v := ?_) rfl (by kernel_rfl) (by kernel_rfl) (by kernel_rfl) (fun _ _ _ h => h) (Or.inl ⟨by rfl, fun w0 hSw => ?_⟩) hHeld ?_
      rotate_left
      · (try dsimp only at hSw)
        go_simp
        try with_reducible rfl
      simp only [Act.put, List.getElem_toArray, List.getElem_cons_succ, List.getElem_cons_zero, List.setIfInBounds_toArray, List.set_cons_zero, List.set_cons_succ]
      refine wpAnyH_take (i := 5) (v := ?_) rfl (by kernel_rfl) (by kernel_rfl) (by kernel_rfl) (fun _ _ _ h => h) (Or.inl ⟨by rfl, fun w0 hSw => ?_⟩) hHeld ?_
      rotate_left
      · (try dsimp only at hSw)
        go_simp
        try with_reducible rfl
      simp only [Act.put, List.getElem_toArray, List.getElem_cons_succ, List.getElem_cons_zero, List.setIfInBounds_toArray, List.set_cons_zero, List.set_cons_succ]
      refine wpAnyH_take (i := 6) (v := ?_) rfl (by kernel_rfl) (by kernel_rfl) (by kernel_rfl) (fun _ _ _ h => h) (Or.inl ⟨by rfl, fun w0 hSw => ?_⟩) hHeld ?_
      rotate_left
      · (try dsimp only at hSw)
        go_simp
        try with_reducible rfl
      simp only [Act.put, List.getElem_toArray, List.getElem_cons_succ, List.getElem_cons_zero, List.setIfInBounds_toArray, List.set_cons_zero, List.set_cons_succ]
      refine wpAnyH_take (i := 7) (v := ?_) rfl (by kernel_rfl) (by kernel_rfl) (by kernel_rfl) (fun _ _ _ h => h) (Or.inl ⟨by rfl, fun w0 hSw => ?_⟩) hHeld ?_
      rotate_left
      · (try dsimp only at hSw)
        go_simp
        try with_reducible rfl
      simp only [Act.put, List.getElem_toArray, List.getElem_cons_succ, List.getElem_cons_zero, List.setIfInBounds_toArray, List.set_cons_zero, List.set_cons_succ]
      refine wpAnyH_ready (rs := [8]) (by kernel_rfl) (by simp) ?_
      refine AllReadyH.cons (o := _) rfl (fun K hK => ?_) AllReadyH.nil
      go_simp
      go_at_call 34; refine (HZ.out ▸ r5cmp_any (QP.out.rd.ext XE) (QQ.out.rd.ext XE) HSZ.out HSZ.out).mono ?_; rintro e w6 ⟨_, rfl, b6, rfl⟩; (first | have XE := Ext.trans XE b6 | have XE := Ext.trans (Ext.trans XE (Ext.alloc _ _)) b6)
      go_wp2_with fail
      refine hK.out _ _ (⟨(CP.out.ext XE).c3, (CQ.out.ext XE).c3⟩) (fun hHeld => ?_)
      clear hK K
      try simp only [Act.put, List.getElem_toArray, List.getElem_cons_succ, List.getElem_cons_zero, List.setIfInBounds_toArray, List.set_cons_zero, List.set_cons_succ]
      refine wpAnyH_take (i := 9) (v := ?_) rfl (by kernel_rfl) (by kernel_rfl) (by kernel_rfl) (fun _ _ _ h => h) (Or.inl ⟨by rfl, fun w0 hSw => ?_⟩) hHeld ?_
      rotate_left
      · (try dsimp only at hSw)
        go_simp
        try with_reducible rfl
      simp only [Act.put, List.getElem_toArray, List.getElem_cons_succ, List.getElem_cons_zero, List.setIfInBounds_toArray, List.set_cons_zero, List.set_cons_succ]
      refine wpAnyH_done (by kernel_rfl) ?_ _
      refine NoPanic.normal ?_
      go_wp2_with fail
      go_roundw
      case rel => exact ⟨j + 1, by go_num, by omega, Ext.trans hx XE⟩
      case measure => simp [intOf] <;> omega
    · obtain rfl : j = P.length := by omega
      have hd : decide ((P.length : Int) < (P.length : Int)) = false := decide_eq_false (by omega)
      go_wp2_with fail
      exact hR.out _ _ (Gives.mk hx rfl)
end Go.Proofs.Ytnbbhpihlcglgaa
