/- Decimal digits as bytes. Nothing here names the program. -/
import Derived.Test.YtgajpmcjjefghaaGreatDoorNumAll
namespace Go.Att

/-- The number that digits say, the first the greatest. -/
def numOf (bs : List Nat) : Nat := bs.foldl (fun n x => 10 * n + (x - 48)) 0
theorem numOf_snoc (bs : List Nat) (x : Nat) : numOf (bs ++ [x]) = 10 * numOf bs + (x - 48) := by simp [numOf]
theorem numOf_nil : numOf [] = 0 := rfl
/-- All are digits. -/
def Digs (bs : List Nat) : Prop := ∀ x ∈ bs, 48 ≤ x ∧ x ≤ 57
theorem Digs.snoc {bs : List Nat} {x : Nat} (h : Digs bs) (hx : 48 ≤ x ∧ x ≤ 57) : Digs (bs ++ [x]) := fun y hy => by
  rcases List.mem_append.1 hy with hy | hy
  · exact h y hy
  · simp at hy; omega
theorem Digs.app {bs cs : List Nat} (h : Digs bs) (k : Digs cs) : Digs (bs ++ cs) := fun y hy => by
  rcases List.mem_append.1 hy with hy | hy
  · exact h y hy
  · exact k y hy
theorem numOf_app (bs cs : List Nat) : numOf (bs ++ cs) = 10 ^ cs.length * numOf bs + numOf cs := by
  generalize hn : cs.length = n
  induction n generalizing cs with
  | zero => rw [List.eq_nil_of_length_eq_zero hn]; simp [numOf_nil]
  | succ n ih =>
    have hne : cs ≠ [] := fun h => by rw [h] at hn; simp at hn
    rw [← List.dropLast_concat_getLast hne, ← List.append_assoc, numOf_snoc, ih _ (by simp [hn]), numOf_snoc, Nat.pow_succ, Nat.mul_add]
    simp only [Nat.mul_assoc, Nat.mul_comm, Nat.add_assoc]

/-- k digits of n. -/
def be : Nat → Nat → List Nat
  | 0, _ => []
  | k + 1, n => be k (n / 10) ++ [n % 10 + 48]
theorem be_len (k n : Nat) : (be k n).length = k := by
  induction k generalizing n with
  | zero => rfl
  | succ k ih => simp [be, ih]
theorem be_digs (k n : Nat) : Digs (be k n) := by
  induction k generalizing n with
  | zero => intro x hx; simp [be] at hx
  | succ k ih => exact (ih _).snoc (by have := Nat.mod_lt n (show 0 < 10 by decide); omega)
theorem be_num (k n : Nat) : numOf (be k n) = n % 10 ^ k := by
  induction k generalizing n with
  | zero => simp [be, numOf_nil, Nat.mod_one]
  | succ k ih =>
    rw [be, numOf_snoc, ih, Nat.add_sub_cancel, Nat.pow_succ, Nat.mul_comm (10 ^ k) 10, Nat.mod_mul]
    omega
theorem be_zero (k : Nat) : be k 0 = List.replicate k 48 := by
  induction k with
  | zero => rfl
  | succ k ih => rw [be, Nat.zero_div, ih]; simp [List.replicate_succ']
theorem be_app (k j n : Nat) : be (k + j) n = be k (n / 10 ^ j) ++ be j n := by
  induction j generalizing n with
  | zero => simp [be]
  | succ j ih => rw [← Nat.add_assoc, be, ih, be, ← List.append_assoc, Nat.div_div_eq_div_mul, Nat.pow_succ, Nat.mul_comm 10]
theorem be_mod (k n : Nat) : be k (n % 10 ^ k) = be k n := by
  induction k generalizing n with
  | zero => rfl
  | succ k ih =>
    have e1 : n % 10 ^ (k + 1) % 10 = n % 10 := Nat.mod_mod_of_dvd n ⟨10 ^ k, by rw [Nat.pow_succ, Nat.mul_comm]⟩
    have e2 : n % 10 ^ (k + 1) / 10 = n / 10 % 10 ^ k := by rw [Nat.pow_succ, Nat.mul_comm, Nat.mod_mul_right_div_self]
    rw [be, e1, e2, ih, be]

/-- The decimal text of n. -/
def dtext (n : Nat) : List Nat := if n < 10 then [n + 48] else dtext (n / 10) ++ [n % 10 + 48]
termination_by n
theorem dtext_small {n : Nat} (h : n < 10) : dtext n = [n + 48] := by rw [dtext, if_pos h]
theorem dtext_step {n : Nat} (h : ¬ n < 10) : dtext n = dtext (n / 10) ++ [n % 10 + 48] := by rw [dtext, if_neg h]
theorem dtext_digs (n : Nat) : Digs (dtext n) := by
  induction n using Nat.strongRecOn with
  | _ n ih =>
    by_cases h : n < 10
    · rw [dtext_small h]; intro x hx; simp at hx; omega
    · rw [dtext_step h]; exact (ih _ (by omega)).snoc (by omega)
theorem dtext_num (n : Nat) : numOf (dtext n) = n := by
  induction n using Nat.strongRecOn with
  | _ n ih =>
    by_cases h : n < 10
    · rw [dtext_small h]; simp [numOf]
    · rw [dtext_step h, numOf_snoc, ih _ (by omega)]; omega
theorem dtext_pos (n : Nat) : 0 < (dtext n).length := by
  by_cases h : n < 10
  · rw [dtext_small h]; simp
  · rw [dtext_step h]; simp
/-- Noughts in front taken off. -/
def trim0 (bs : List Nat) : List Nat := bs.dropWhile (· == 48)
theorem dtext_head {n : Nat} (hn : n ≠ 0) : ∃ x l, dtext n = x :: l ∧ x ≠ 48 := by
  induction n using Nat.strongRecOn with
  | _ n ih =>
    by_cases h : n < 10
    · rw [dtext_small h]; exact ⟨_, _, rfl, by omega⟩
    · obtain ⟨x, l, e, hx⟩ := ih (n / 10) (by omega) (by omega)
      rw [dtext_step h, e]
      exact ⟨x, l ++ [n % 10 + 48], rfl, hx⟩
theorem trim0_zeros (k : Nat) (bs : List Nat) : trim0 (List.replicate k 48 ++ bs) = trim0 bs := by
  induction k with
  | zero => simp
  | succ k ih => rw [List.replicate_succ, List.cons_append]; unfold trim0 at ih ⊢; rw [List.dropWhile_cons]; simp [ih]
theorem trim0_text {n : Nat} (hn : n ≠ 0) : trim0 (dtext n) = dtext n := by
  obtain ⟨x, l, e, hx⟩ := dtext_head hn
  rw [e]
  unfold trim0
  rw [List.dropWhile_cons]
  simp [hx]
/-- k digits are noughts and the text. -/
theorem be_text {k n : Nat} (hn : n ≠ 0) (hk : n < 10 ^ k) : be k n = List.replicate (k - (dtext n).length) 48 ++ dtext n ∧ (dtext n).length ≤ k := by
  induction k generalizing n with
  | zero => simp at hk; omega
  | succ k ih =>
    by_cases h : n < 10
    · rw [be, show n / 10 = 0 by omega, be_zero, dtext_small h, Nat.mod_eq_of_lt h]
      simp
    · have h1 : n / 10 < 10 ^ k := by rw [Nat.pow_succ] at hk; omega
      obtain ⟨e, hl⟩ := ih (by omega) h1
      rw [be, dtext_step h, e, List.append_assoc]
      simp
      omega
theorem trim_be {k n : Nat} (hn : n ≠ 0) (hk : n < 10 ^ k) : trim0 (be k n) = dtext n := by rw [(be_text hn hk).1, trim0_zeros, trim0_text hn]

/-- Groups of nine digits, the lowest group first. -/
def beGroups : List Nat → List Nat
  | [] => []
  | g :: gs => beGroups gs ++ be 9 g
theorem beGroups_eq (n : Nat) : beGroups (digs 1000000000 n) = be (9 * (digs 1000000000 n).length) n := by
  induction n using Nat.strongRecOn with
  | _ n ih =>
    by_cases h : n = 0
    · subst h; rw [digs_zero]; rfl
    · rw [digs_pos _ (by decide) n h, beGroups, ih _ (by omega), List.length_cons, show 9 * ((digs 1000000000 (n / 1000000000)).length + 1) = 9 * (digs 1000000000 (n / 1000000000)).length + 9 by omega, be_app]
      congr 1
      exact be_mod 9 n
theorem trim_groups {n : Nat} (hn : n ≠ 0) : trim0 (beGroups (digs 1000000000 n)) = dtext n := by
  rw [beGroups_eq]
  refine trim_be hn ?_
  have := (digs_len 1000000000 (by decide) n (digs 1000000000 n).length).1 (Nat.le_refl _)
  rw [Nat.pow_mul]
  exact this
/-- Noughts behind. -/
theorem dtext_tens {m : Nat} (hm : m ≠ 0) (k : Nat) : dtext (m * 10 ^ k) = dtext m ++ List.replicate k 48 := by
  induction k with
  | zero => simp
  | succ k ih =>
    have hp := Nat.pow_pos (n := k) (show 0 < 10 by decide)
    have h : ¬ m * 10 ^ (k + 1) < 10 := by
      have : 1 * 1 ≤ m * 10 ^ k := Nat.mul_le_mul (by omega) hp
      rw [Nat.pow_succ, ← Nat.mul_assoc]
      omega
    rw [dtext_step h, Nat.pow_succ, ← Nat.mul_assoc, Nat.mul_div_cancel _ (by decide), Nat.mul_mod_left, ih, List.append_assoc, List.replicate_succ']
theorem dtext_len_le {n k : Nat} (hk : n < 10 ^ k) (h0 : 0 < k) : (dtext n).length ≤ k := by
  by_cases hn : n = 0
  · subst hn; rw [dtext_small (by decide)]; simp; omega
  · exact (be_text hn hk).2
theorem dtext_inj {m n : Nat} (h : dtext m = dtext n) : m = n := by rw [← dtext_num m, h, dtext_num]
end Go.Att
