/- The plain law of DeltaHolds. -/
import Derived.Test.YtpeeacdnjbcmiaaPChoose
import Derived.Test.YtpeeacdnjbcmiaaPRatAbs
namespace Go.Proofs.Ytpeeacdnjbcmiaa
open Go.RowKit Go.Att

theorem sign_le {a b : Rat} : (a - b).num.sign ≤ 0 ↔ a ≤ b := by
  have h1 : 0 ≤ (b - a).num ↔ 0 ≤ b - a := Rat.num_nonneg
  rw [Rat.le_iff_sub_nonneg a b, ← h1, show (b - a).num = -(a - b).num by rw [← Rat.neg_num, Rat.neg_sub], Int.sign_nonpos_iff]
  omega
theorem sign_zero {a b : Rat} : (a - b).num.sign = 0 ↔ a = b := by
  rw [Int.sign_eq_zero_iff_zero, Rat.num_eq_zero]
  constructor
  · intro h; grind
  · intro h; grind
/-- In order at e. -/
def Hz (z : (Rat × Rat) × (Rat × Rat)) (e : Rat) : Prop := z.1.1 + z.1.2 * e ≤ z.2.1 + z.2.2 * e
theorem hz_low {z : (Rat × Rat) × (Rat × Rat)} {e : Rat} (h : ¬ 0 < cmpD z.1.1 z.1.2 z.2.1 z.2.2) (h2 : z.1.2 ≤ z.2.2) (he : 0 ≤ e) : Hz z e := by
  have h1 : z.1.1 ≤ z.2.1 := by
    unfold cmpD at h
    split at h
    · next h3 => exact sign_le.1 (by omega)
    · exact sign_le.1 (by omega)
  have := Rat.mul_le_mul_of_nonneg_right h2 he
  unfold Hz
  grind
theorem hz_high {z : (Rat × Rat) × (Rat × Rat)} {e : Rat} (h2 : z.2.2 < z.1.2) : Hz z e ↔ e ≤ (z.2.1 - z.1.1) / (z.1.2 - z.2.2) := by
  have hd : 0 < z.1.2 - z.2.2 := by grind
  rw [← Rat.not_lt, Rat.div_lt_iff hd, Rat.not_lt]
  unfold Hz
  constructor <;> intro h <;> grind
theorem q_pos {z : (Rat × Rat) × (Rat × Rat)} (h : ¬ 0 < cmpD z.1.1 z.1.2 z.2.1 z.2.2) (h2 : z.2.2 < z.1.2) : 0 < (z.2.1 - z.1.1) / (z.1.2 - z.2.2) := by
  have h1 : z.1.1 < z.2.1 := by
    unfold cmpD at h
    split at h
    · next h3 => exact absurd (sign_le.1 (Int.not_lt.1 h)) (Rat.not_le.2 h2)
    · next h3 => exact Rat.lt_of_le_of_ne (sign_le.1 (Int.not_lt.1 h)) fun h4 => h3 (sign_zero.2 h4)
  rw [Rat.lt_div_iff (by grind)]
  grind
theorem lst_le1 {x y : Rat} : lst x y ≤ x := by
  unfold lst
  split
  · exact Rat.le_refl
  · next h => exact Rat.le_of_lt (Rat.not_le.1 fun h2 => h (sign_le.2 h2))
theorem lst_le2 {x y : Rat} : lst x y ≤ y := by
  unfold lst
  split
  · next h => exact sign_le.1 h
  · exact Rat.le_refl
theorem lst_or {x y : Rat} : lst x y = x ∨ lst x y = y := by
  unfold lst
  split
  · exact .inl rfl
  · exact .inr rfl
theorem chz_holds : ∀ (l : List ((Rat × Rat) × (Rat × Rat))) (m0 m : Rat), chz l m0 = some m → 0 < m0 →
    0 < m ∧ m ≤ m0 ∧ (∀ z ∈ l, ∀ e, 0 ≤ e → e ≤ m → Hz z e) ∧ (∀ e, m < e → e ≤ m0 → ∃ z ∈ l, ¬ Hz z e)
  | [], m0, m, h, h0 => by
    obtain rfl : m0 = m := by simpa [chz] using h
    exact ⟨h0, Rat.le_refl, fun z hz => absurd hz List.not_mem_nil, fun e h1 h2 => absurd h1 (Rat.not_lt.2 h2)⟩
  | z :: r, m0, m, h, h0 => by
    rw [chz_cons] at h
    split at h
    · exact nomatch h
    next hc =>
    split at h
    · next hs =>
      obtain ⟨h1, h2, h3, h4⟩ := chz_holds r m0 m h h0
      refine ⟨h1, h2, fun y hy e he1 he2 => ?_, fun e he1 he2 => ?_⟩
      · rcases List.mem_cons.1 hy with rfl | hy
        · exact hz_low hc (sign_le.1 hs) he1
        · exact h3 y hy e he1 he2
      · obtain ⟨y, hy, h5⟩ := h4 e he1 he2
        exact ⟨y, List.mem_cons_of_mem _ hy, h5⟩
    · next hs =>
      have hs2 : z.2.2 < z.1.2 := Rat.not_le.1 fun h => hs (sign_le.2 h)
      have hq := q_pos hc hs2
      have hl : 0 < lst m0 ((z.2.1 - z.1.1) / (z.1.2 - z.2.2)) := by
        rcases lst_or (x := m0) (y := (z.2.1 - z.1.1) / (z.1.2 - z.2.2)) with h | h <;> rw [h] <;> assumption
      obtain ⟨h1, h2, h3, h4⟩ := chz_holds r _ m h hl
      refine ⟨h1, Rat.le_trans h2 lst_le1, fun y hy e he1 he2 => ?_, fun e he1 he2 => ?_⟩
      · rcases List.mem_cons.1 hy with rfl | hy
        · exact (hz_high hs2).2 (Rat.le_trans he2 (Rat.le_trans h2 lst_le2))
        · exact h3 y hy e he1 he2
      · by_cases h6 : Hz z e
        · have h7 := (hz_high hs2).1 h6
          have h8 : e ≤ lst m0 ((z.2.1 - z.1.1) / (z.1.2 - z.2.2)) := by
            rcases lst_or (x := m0) (y := (z.2.1 - z.1.1) / (z.1.2 - z.2.2)) with h | h <;> rw [h] <;> assumption
          obtain ⟨y, hy, h5⟩ := h4 e he1 h8
          exact ⟨y, List.mem_cons_of_mem _ hy, h5⟩
        · exact ⟨z, List.mem_cons_self, h6⟩
/-- Some pair is out of order at e, or it was so before. -/
def bro (e : Rat) : List ((Rat × Rat) × (Rat × Rat)) → Bool → Bool
  | [], b => b
  | z :: r, b => bro e r (b || decide (0 < (z.1.1 + z.1.2 * e - (z.2.1 + z.2.2 * e)).num.sign))
theorem bro_true (e : Rat) : ∀ l, bro e l true = true
  | [] => rfl
  | z :: r => by
    show bro e r (true || _) = true
    rw [Bool.true_or]
    exact bro_true e r
theorem bro_of {e : Rat} : ∀ {l : List ((Rat × Rat) × (Rat × Rat))} {b : Bool}, (∃ z ∈ l, ¬ Hz z e) → bro e l b = true
  | [], b, ⟨z, hz, _⟩ => nomatch hz
  | y :: r, b, ⟨z, hz, hn⟩ => by
    show bro e r (b || _) = true
    rcases List.mem_cons.1 hz with rfl | hz
    · rw [decide_eq_true (Int.not_le.1 fun h => hn (sign_le.1 h)), Bool.or_true, bro_true]
    · exact bro_of ⟨z, hz, hn⟩
/-- What is asked: at a greater number up to 1 some pair is out of order. -/
theorem bro_end {l : List ((Rat × Rat) × (Rat × Rat))} {m u : Rat} {b : Bool} (h : chz l 1 = some m) (hb : 0 < (m + absQ u - 1).num.sign ∨ u.num.sign = 0 → b = true) : bro (m + absQ u) l b = true := by
  by_cases h1 : b = true
  · rw [h1, bro_true]
  · have h2 : ¬ 0 < (m + absQ u - 1).num.sign := fun h => h1 (hb (.inl h))
    have h3 : ¬ u.num.sign = 0 := fun h => h1 (hb (.inr h))
    refine bro_of ((chz_holds l 1 m h (by decide)).2.2.2 (m + absQ u) ?_ (sign_le.1 (Int.not_lt.1 h2)))
    have h4 : absQ u ≠ 0 := fun h => h3 (by
      have := absQ_abs u
      rw [h] at this
      have h5 : u.num = 0 := by
        have h6 : (0 : Rat).num.natAbs = 0 := rfl
        omega
      rw [h5]; rfl)
    have h5 : 0 ≤ absQ u := by
      have := absQ_neg u
      rw [← Rat.num_nonneg]
      simpa using this
    grind
theorem half_pos {m : Rat} (h : 0 < m) : 0 ≤ m * (((1 : Int) : Rat) / ((2 : Int) : Rat)) ∧ m * (((1 : Int) : Rat) / ((2 : Int) : Rat)) ≤ m := by
  have h2 : (((1 : Int) : Rat) / ((2 : Int) : Rat)) = 1 / 2 := by decide +kernel
  rw [h2]
  grind
theorem sign_pos {m : Rat} (h : 0 < m) : 0 < m.num.sign := by
  rw [Int.sign_pos_iff, ← Int.not_le]
  intro h2
  have h3 : (m - 0).num.sign ≤ 0 := by rw [Rat.sub_eq_add_neg, Rat.neg_zero, Rat.add_zero, Int.sign_nonpos_iff]; exact h2
  exact absurd (sign_le.1 h3) (Rat.not_le.2 h)
end Go.Proofs.Ytpeeacdnjbcmiaa
