/- One element of a row of three cells each is overwritten. Nothing here names the program. -/
import Derived.Test.YtnbbhpihlcglgaaEvL
namespace Go.Att
open Go.RowKit

theorem flat3 {E : List (List Value)} (h : ∀ c ∈ E, c.length = 3) : E.flatten.length = E.length * 3 ∧ ∀ i j, i < E.length → j < 3 → E.flatten[i * 3 + j]? = (gt E i)[j]? := by
  have hp : Pw 3 (fun _ (_ : Unit) => True) E (E.map fun _ => ()) := by
    induction E with
    | nil => trivial
    | cons c E ih => exact ⟨⟨h c List.mem_cons_self, trivial⟩, ih fun d hd => h d (List.mem_cons_of_mem _ hd)⟩
  refine ⟨by rw [hp.flat, List.length_map], fun i j hi hj => ?_⟩
  induction E generalizing i with
  | nil => simp at hi
  | cons c E ih =>
    have hc := h c List.mem_cons_self
    cases i with
    | zero =>
      rw [Nat.zero_mul, Nat.zero_add, List.flatten_cons, List.getElem?_append_left (by omega)]
      rfl
    | succ i =>
      have := ih (fun d hd => h d (List.mem_cons_of_mem _ hd)) hp.2 i (by simpa using hi)
      rw [List.flatten_cons, List.getElem?_append_right (by omega), show (i + 1) * 3 + j - c.length = i * 3 + j by omega, this]
      rfl
theorem Pw.all {α : Type} {k : Nat} {R : List Value → α → Prop} : ∀ {E : List (List Value)} {l : List α}, Pw k R E l → ∀ c ∈ E, c.length = k
  | _ :: _, _ :: _, h, c, hc => by
    rcases List.mem_cons.1 hc with rfl | hc
    · exact h.1.1
    · exact Pw.all h.2 c hc
  | [], [], _, _, hc => by cases hc
  | [], _ :: _, h, _, _ => h.elim
  | _ :: _, [], h, _, _ => h.elim
theorem Pw.set {α : Type} {k : Nat} {R S : List Value → α → Prop} (hRS : ∀ c a, R c a → S c a) : ∀ {E : List (List Value)} {l : List α}, Pw k R E l → ∀ (i : Nat) {c : List Value} {a : α}, c.length = k → S c a → Pw k S (E.set i c) (l.set i a)
  | [], [], _, _, _, _, _, _ => trivial
  | _ :: _, _ :: _, h, 0, _, _, hc, hS => ⟨⟨hc, hS⟩, h.2.mono hRS⟩
  | _ :: E, _ :: l, h, i + 1, _, _, hc, hS => ⟨⟨h.1.1, hRS _ _ h.1.2⟩, Pw.set hRS (E := E) (l := l) h.2 i hc hS⟩
  | [], _ :: _, h, _, _, _, _, _ => h.elim
  | _ :: _, [], h, _, _, _, _, _ => h.elim
theorem OwnRow.set3 {α : Type} {T : World → Value → α → Prop} {t : TypeId} {B : Nat} {w : World} {a : Option Addr} {n cap : Nat} {l : List α} (h : OwnRow 3 T t B w (.slice a n cap) l) (i : Nat) (hi : i < l.length) :
    ∃ g, a = some ⟨g, 0, none⟩ ∧ B ≤ g ∧ (∃ u0 u1 u2, w.cell? ⟨g, i * 3, none⟩ = some u0 ∧ w.cell? ⟨g, i * 3 + 1, none⟩ = some u1 ∧ w.cell? ⟨g, i * 3 + 2, none⟩ = some u2 ∧ w.frozen? ⟨g, i * 3, none⟩ = false ∧ w.frozen? ⟨g, i * 3 + 1, none⟩ = false ∧ w.frozen? ⟨g, i * 3 + 2, none⟩ = false) ∧
      ∃ cur, w.heap[g]? = some (.cells cur t (0, 0)) ∧
      ∀ (x y z : Value) (q : α), (∀ c b, T w (.agg c) b → T (((w.setCell ⟨g, i * 3, none⟩ x).setCell ⟨g, i * 3 + 1, none⟩ y).setCell ⟨g, i * 3 + 2, none⟩ z) (.agg c) b) → T (((w.setCell ⟨g, i * 3, none⟩ x).setCell ⟨g, i * 3 + 1, none⟩ y).setCell ⟨g, i * 3 + 2, none⟩ z) (.agg #[x, y, z]) q →
        RdRow 3 T (((w.setCell ⟨g, i * 3, none⟩ x).setCell ⟨g, i * 3 + 1, none⟩ y).setCell ⟨g, i * 3 + 2, none⟩ z) (.slice a n cap) (l.set i q) := by
  obtain ⟨E, ⟨h1, h2⟩, hp⟩ := h
  have hl := hp.len
  have hEl := hp.all
  obtain ⟨f1, f2⟩ := flat3 hEl
  rcases h2 with ⟨-, h2⟩ | ⟨g, cap', cur, hv, hb, hg, hnc, hcm, hcs, ht⟩
  · omega
  · simp only [Value.slice.injEq] at hv
    obtain ⟨rfl, rfl, rfl⟩ := hv
    have hc : ∀ m, m < l.length * 3 → cur[m]? = E.flatten[m]? := fun m hm => by
      rw [← ht, List.getElem?_take, if_pos (by omega)]
      simp
    have hsz : i * 3 + 2 < cur.size := by
      have := Nat.mul_le_mul_right 3 hnc
      omega
    refine ⟨g, rfl, hb, ⟨cur[i * 3], cur[i * 3 + 1], cur[i * 3 + 2], ?_, ?_, ?_, frozen_of_row w g _ _ t hg, frozen_of_row w g _ _ t hg, frozen_of_row w g _ _ t hg⟩, cur, hg, ?_⟩
    · rw [cell_of_row w g _ _ t (0, 0) hg]; exact Array.getElem?_eq_getElem _
    · rw [cell_of_row w g _ _ t (0, 0) hg]; exact Array.getElem?_eq_getElem _
    · rw [cell_of_row w g _ _ t (0, 0) hg]; exact Array.getElem?_eq_getElem _
    · intro x y z q hst hq
      have hp' := Pw.set (S := fun c a => T (((w.setCell ⟨g, i * 3, none⟩ x).setCell ⟨g, i * 3 + 1, none⟩ y).setCell ⟨g, i * 3 + 2, none⟩ z) (.agg c.toArray) a) (fun c a h => hst _ _ h) hp i (c := [x, y, z]) (a := q) rfl hq
      have hEl' := hp'.all
      obtain ⟨f1', f2'⟩ := flat3 hEl'
      rw [List.length_set] at f1' f2'
      refine ⟨E.set i [x, y, z], ⟨by rw [f1', List.length_set, hl], _, _, by rw [List.length_set], by rw [List.length_set]; exact hnc, hcm, fun h => absurd h (by simp), fun m hm => ?_⟩, hp'⟩
      refine ⟨g, 0, rfl, ?_⟩
      rw [f1'] at hm
      rw [cell_of_row _ g _ _ t (0, 0) (heap_setCell_same _ g _ _ t z (heap_setCell_same _ g _ _ t y (heap_setCell_same _ g _ _ t x hg))), Nat.zero_add]
      have hm' : m = m / 3 * 3 + m % 3 := by omega
      rw [hm', f2' _ _ (by omega) (by omega), gt_set (by omega)]
      by_cases hk : m / 3 = i
      · rw [if_pos hk, hk]
        have hr : m % 3 = 0 ∨ m % 3 = 1 ∨ m % 3 = 2 := by omega
        rcases hr with hr | hr | hr <;> rw [hr] <;> simp [Array.getElem?_setIfInBounds] <;> omega
      · rw [if_neg hk, ← f2 _ _ (by omega) (by omega), ← hc _ (by omega), Array.getElem?_setIfInBounds_ne (by omega), Array.getElem?_setIfInBounds_ne (by omega), Array.getElem?_setIfInBounds_ne (by omega)]
theorem smv_set (F : Int → Rat) (q : Rat) (P : List Rat) : ∀ (i k : Nat), i < P.length → smv F (P.set i q) k = smv F P k + F ((k + i : Nat) : Int) * (q - gt P i) := by
  induction P with
  | nil => intro i k h; simp at h
  | cons p P ih =>
    intro i k h
    cases i with
    | zero =>
      show F k * q + smv F P (k + 1) = (F k * p + smv F P (k + 1)) + F k * (q - p)
      grind
    | succ i =>
      show F k * p + smv F (P.set i q) (k + 1) = (F k * p + smv F P (k + 1)) + _
      rw [ih i (k + 1) (by simpa using h), Rat.add_assoc, show k + 1 + i = k + (i + 1) by omega]
      rfl
end Go.Att
