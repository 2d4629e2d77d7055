/- What Farkas's numbers refute does not all hold: plain. -/
import Derived.Test.YtnbbhpihlcglgaaPFarkRef
namespace Go.Proofs.Ytnbbhpihlcglgaa
open Go.RowKit Go.Att

theorem sgge {q : Rat} : 0 ≤ q.num.sign ↔ 0 ≤ q := by rw [Int.sign_nonneg_iff]; exact Rat.num_nonneg
theorem sgle {q : Rat} : q.num.sign ≤ 0 ↔ q ≤ 0 := by
  have h1 : 0 ≤ (0 - q).num ↔ 0 ≤ 0 - q := Rat.num_nonneg
  rw [Rat.le_iff_sub_nonneg q 0, ← h1, show (0 - q).num = -q.num by rw [Rat.sub_eq_add_neg, Rat.zero_add, Rat.neg_num], Int.sign_nonpos_iff]
  omega
theorem sglt {q : Rat} : q.num.sign < 0 ↔ q < 0 := by
  rw [← Rat.not_le, ← sgge]
  omega
theorem sggt {q : Rat} : 0 < q.num.sign ↔ 0 < q := by
  rw [← Rat.not_le, ← sgle]
  omega
/-- The value of a constraint's side. -/
def av (P : List Rat) (a : AT) : Rat := a.1.2 + smv (cf a.1.1) P 0
def tot (P : List Rat) : List AZ → Rat
  | [] => 0
  | z :: l => z.2 * av P z.1 + tot P l
theorem tot_eq (P : List Rat) (l : List AZ) : tot P l = fct l + smv (fcf l) P 0 := by
  induction l with
  | nil => show (0 : Rat) = 0 + smv (fun _ => 0) P 0; rw [smv_zero, Rat.add_zero]
  | cons z l ih =>
    show z.2 * (z.1.1.2 + smv (cf z.1.1.1) P 0) + tot P l = (z.2 * z.1.1.2 + fct l) + smv (fun x => z.2 * cf z.1.1.1 x + fcf l x) P 0
    rw [smv_add, smv_mul, ih]
    grind
theorem neg_of {t v : Rat} (ht : 0 ≤ t) (hv : v ≤ 0) : t * v ≤ 0 := by
  have h := Rat.mul_nonneg ht (show 0 ≤ -v by grind)
  grind
theorem neg_of' {t v : Rat} (ht : 0 < t) (hv : v < 0) : t * v < 0 := by
  have h := Rat.mul_pos ht (show 0 < -v by grind)
  grind
theorem one_le {P : List Rat} {z : AZ} (hb : fbad z = false) (hh : holdA z.1 P = true) : z.2 * av P z.1 ≤ 0 ∧ ((z.1.2 == 2 && decide (0 < z.2.num.sign)) = true → z.2 * av P z.1 < 0) := by
  obtain ⟨⟨⟨l, c⟩, op⟩, t⟩ := z
  unfold fbad at hb
  rw [Bool.or_eq_false_iff] at hb
  obtain ⟨h1, h2⟩ := hb
  have h3 : 1 ≤ op ∧ op ≤ 3 := by simpa using h1
  change says op (av P ((l, c), op)) = true at hh
  show t * av P ((l, c), op) ≤ 0 ∧ ((op == 2 && decide (0 < t.num.sign)) = true → t * av P ((l, c), op) < 0)
  generalize av P ((l, c), op) = v at *
  unfold says at hh
  change (op != 3 && decide (t.num.sign < 0)) = false at h2
  have h4 : op = 1 ∨ op = 2 ∨ op = 3 := by omega
  rcases h4 with rfl | rfl | rfl
  · have ht : 0 ≤ t := by
      have : ¬ t.num.sign < 0 := by simpa using h2
      exact sgge.1 (by omega)
    have hv : v ≤ 0 := by
      have : v.num.sign = 0 ∨ v.num.sign < 0 := by simpa using hh
      exact sgle.1 (by omega)
    exact ⟨neg_of ht hv, fun h => by simp at h⟩
  · have ht : 0 ≤ t := by
      have : ¬ t.num.sign < 0 := by simpa using h2
      exact sgge.1 (by omega)
    have hv : v < 0 := by
      have : v.num.sign < 0 := by simpa using hh
      exact sglt.1 this
    refine ⟨neg_of ht (by grind), fun h => ?_⟩
    have h5 : 0 < t.num.sign := by simpa using h
    exact neg_of' (sggt.1 h5) hv
  · have hv : v = 0 := by
      have : v.num.sign = 0 := by simpa using hh
      exact num_sign_zero.1 this
    rw [hv, Rat.mul_zero]
    exact ⟨Rat.le_refl, fun h => by simp at h⟩
theorem tot_le {P : List Rat} : ∀ {l : List AZ}, (∀ z ∈ l, fbad z = false) → (∀ z ∈ l, holdA z.1 P = true) → tot P l ≤ 0 ∧ (fst' l = true → tot P l < 0)
  | [], _, _ => ⟨Rat.le_refl, fun h => by cases h⟩
  | z :: l, hb, hh => by
    have h1 := one_le (hb z List.mem_cons_self) (hh z List.mem_cons_self)
    have h2 := tot_le (l := l) (fun y hy => hb y (List.mem_cons_of_mem _ hy)) (fun y hy => hh y (List.mem_cons_of_mem _ hy))
    show z.2 * av P z.1 + tot P l ≤ 0 ∧ (((z.1.2 == 2 && decide (0 < z.2.num.sign)) || fst' l) = true → z.2 * av P z.1 + tot P l < 0)
    refine ⟨by have := h1.1; have := h2.1; grind, fun h => ?_⟩
    rw [Bool.or_eq_true] at h
    rcases h with h | h
    · have := h1.2 h; have := h2.1; grind
    · have := h1.1; have := h2.2 h; grind
/-- What is refuted does not all hold. -/
theorem farkas_sound {L : List AT} {T P : List Rat} {e : Int} (h : RefV L T true e) (hh : ∀ a ∈ L, holdA a P = true ∧ 1 ≤ a.2 ∧ a.2 ≤ 3) : False := by
  unfold RefV at h
  by_cases h1 : L.length = T.length
  · rw [if_neg (fun h => h h1)] at h
    by_cases h2 : (L.zip T).any fbad = true
    · rw [if_pos h2] at h; exact absurd h.1 (by decide)
    · rw [if_neg h2] at h
      obtain ⟨h3, h4⟩ := h.2.1 rfl
      have hb : ∀ z ∈ L.zip T, fbad z = false := fun z hz => by
        by_cases hb : fbad z = true
        · exact absurd (List.any_eq_true.2 ⟨z, hz, hb⟩) h2
        · simpa using hb
      have h5 := tot_le (P := P) hb (fun z hz => (hh _ (List.of_mem_zip hz).1).1)
      rw [tot_eq, smv_congr h3, smv_zero, Rat.add_zero] at h5
      rcases h4 with h4 | ⟨h4, h6⟩
      · have := sggt.1 h4
        have := h5.1
        grind
      · have h7 := num_sign_zero.1 h4
        have := h5.2 h6
        rw [h7] at this
        exact absurd this Rat.lt_irrefl
  · rw [if_pos h1] at h; exact absurd h.1 (by decide)
end Go.Proofs.Ytnbbhpihlcglgaa
