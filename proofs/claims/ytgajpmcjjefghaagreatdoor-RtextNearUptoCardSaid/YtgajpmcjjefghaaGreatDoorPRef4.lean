/- attestref04.Parse; attestlaw04.awake -/
import Derived.Test.YtgajpmcjjefghaaGreatDoorPTens
namespace Go.Proofs.YtgajpmcjjefghaaGreatDoor
open Go.RowKit Go.Att

theorem bits_nil0 : bitsOf 0 = [] := List.eq_nil_of_length_eq_zero (Nat.le_zero.1 ((bitsOf_len 0 0).2 (by decide)))
theorem numOf_lt (bs : List Nat) (h : Digs bs) : numOf bs < 10 ^ bs.length := by
  generalize hn : bs.length = n
  induction n generalizing bs with
  | zero => rw [List.eq_nil_of_length_eq_zero hn]; decide
  | succ n ih =>
    have hne : bs ≠ [] := fun h => by rw [h] at hn; simp at hn
    have e := List.dropLast_concat_getLast hne
    have h1 := ih bs.dropLast (fun x hx => h x (List.dropLast_subset _ hx)) (by simp [hn])
    have h2 := h _ (List.getLast_mem hne)
    rw [← e, numOf_snoc, Nat.pow_succ]
    omega
theorem digs_take {bs : List Nat} {k : Nat} (h : ∀ i, i < k → 48 ≤ nth bs i ∧ nth bs i ≤ 57) : Digs (bs.take k) := fun x hx => by
  obtain ⟨i, hi, rfl⟩ := List.mem_iff_getElem.1 hx
  rw [List.length_take] at hi
  have := h i (by omega)
  rw [nth_lt _ _ (by omega)] at this
  rw [List.getElem_take]
  exact this

theorem num_bits {bs : List Nat} {k : Nat} (h : ∀ i, i < k → 48 ≤ nth bs i ∧ nth bs i ≤ 57) : (bitsOf (numOf (bs.take k))).length ≤ 4 * k + 1 := by
  have h1 := numOf_lt _ (digs_take h)
  have h2 : 10 ^ (bs.take k).length ≤ 10 ^ k := Nat.pow_le_pow_right (by decide) (by rw [List.length_take]; exact Nat.min_le_left _ _)
  have h3 := pow10_bits k
  exact bits_lt (by omega)

theorem wrap8 {n : Nat} (h1 : 48 ≤ n) (h2 : n ≤ 57) : IntKind.u64.wrap (IntKind.u8.wrap ((n : Int) - 48)) = ((n - 48 : Nat) : Int) := by
  have e1 : IntKind.u8.wrap ((n : Int) - 48) = (n : Int) - 48 := by
    show ((n : Int) - 48) % 256 = _
    omega
  rw [e1]
  show ((n : Int) - 48) % 18446744073709551616 = _
  omega
theorem mul10_bits (N : Nat) : (bitsOf (N * 10)).length ≤ (bitsOf N).length + 4 := by
  have h := (bitsOf_len N _).1 (Nat.le_refl (bitsOf N).length)
  refine bits_lt ?_
  rw [Nat.pow_add]
  omega
end Go.Proofs.YtgajpmcjjefghaaGreatDoor
