/- What Decimal tells, as a number: the plain laws. -/
import Derived.Test.YtgajpmcjjefghaaGreatDoorPRtDec
import Derived.Test.YtgajpmcjjefghaaGreatDoorPReadBack
namespace Go.Proofs.YtgajpmcjjefghaaGreatDoor
open Go.RowKit Go.Att

theorem numOf_zeros (k : Nat) (l : List Nat) : numOf (List.replicate k 48 ++ l) = numOf l := by
  induction k with
  | zero => rfl
  | succ k ih =>
    rw [List.replicate_succ, List.cons_append]
    unfold numOf
    rw [List.foldl_cons]
    exact ih
theorem decP_num (Q n : Nat) : numOf (decP Q n) = Q := by
  unfold decP padded
  rw [numOf_zeros, dtext_num]
theorem decP_digs (Q n : Nat) : Digs (decP Q n) := by
  unfold decP padded
  refine Digs.app (fun x hx => ?_) (dtext_digs Q)
  rw [List.eq_of_mem_replicate hx]
  decide
theorem strip_s (s : Bool) {D : List Nat} (R : List Nat) (h : Digs D) (h0 : 0 < D.length) : stripN ((if s = true then [45] else []) ++ (D ++ R)) = (s, D ++ R) := by
  cases s with
  | false => exact strip_digs R h h0
  | true => rfl
/-- The number that the text says. -/
def decN (q : Rat) (n : Nat) : Bool := decide (q.num < 0) && decide (decQ q n ≠ 0)
def decV (q : Rat) (n : Nat) : Rat := mkQ (decN q n) (decQ q n) (10 ^ n)
theorem decT_eq (q : Rat) (n : Nat) : decT q n = (if decN q n = true then [45] else []) ++ pointed (decP (decQ q n) n) n := by
  unfold decT decN
  simp only [Bool.and_eq_true, decide_eq_true_eq]
theorem read_dec (q : Rat) (n : Nat) : readT (decT q n) = some (decV q n) := by
  rw [decT_eq]
  unfold decV
  generalize decN q n = s
  generalize decQ q n = Q
  obtain ⟨hl, -⟩ := decP_len Q n
  have hn := decP_num Q n
  have hd := decP_digs Q n
  generalize decP Q n = P at *
  unfold pointed readT
  by_cases h0 : n = 0
  · subst h0
    rw [if_pos rfl, show P = P ++ [] by rw [List.append_nil], strip_s s [] hd (by omega)]
    dsimp only
    rw [List.append_nil]
    have h7 : ¬ pos 47 P < P.length := by
      have := pos_app [] (digs_ne hd (c := 47) (by decide))
      rw [List.append_nil, pos_nil] at this
      omega
    have h6 : ¬ pos 46 P < P.length := by
      have := pos_app [] (digs_ne hd (c := 46) (by decide))
      rw [List.append_nil, pos_nil] at this
      omega
    rw [if_neg h7, if_neg h6]
    unfold frac
    rw [if_pos (goodB_iff.2 ⟨by omega, hd⟩), if_neg (by decide), hn]
  · have ht : Digs (P.take (P.length - n)) := fun x hx => hd x (List.mem_of_mem_take hx)
    have hr : Digs (P.drop (P.length - n)) := fun x hx => hd x (List.mem_of_mem_drop hx)
    have hlt : (P.take (P.length - n)).length = P.length - n := by rw [List.length_take]; omega
    have hlr : (P.drop (P.length - n)).length = n := by rw [List.length_drop]; omega
    have happ : P.take (P.length - n) ++ P.drop (P.length - n) = P := List.take_append_drop _ _
    rw [if_neg h0, List.append_assoc, strip_s s _ ht (by omega)]
    dsimp only
    generalize P.take (P.length - n) = A at *
    generalize P.drop (P.length - n) = B at *
    have h7 : ¬ pos 47 (A ++ ([46] ++ B)) < (A ++ ([46] ++ B)).length := by
      have e := pos_app [] (digs_ne hr (c := 47) (by decide))
      rw [List.append_nil, pos_nil] at e
      rw [pos_app _ (digs_ne ht (by decide)), List.singleton_append, pos_cons, if_neg (by decide), e]
      simp
    have h6 : pos 46 (A ++ ([46] ++ B)) = A.length := by
      rw [pos_app _ (digs_ne ht (by decide)), List.singleton_append, pos_cons, if_pos rfl, Nat.add_zero]
    rw [if_neg h7, h6, if_pos (by simp)]
    have e1 : (A ++ ([46] ++ B)).take A.length = A := List.take_left' rfl
    have e2 : (A ++ ([46] ++ B)).drop (A.length + 1) = B := by rw [← List.drop_drop, List.drop_left' rfl]; rfl
    rw [e1, e2, happ, hlr, if_neg (by
      rintro (h | h)
      · rw [h] at hlt; simp at hlt; omega
      · rw [h] at hlr; simp at hlr; omega)]
    unfold frac
    rw [if_pos (goodB_iff.2 ⟨by omega, hd⟩), if_neg (Nat.pos_iff_ne_zero.1 (Nat.pow_pos (by decide))), hn]
theorem decT_fit (q : Rat) (n : Nat) : Fit 256 (decT q n) := by
  rw [decT_eq]
  have hd := decP_digs (decQ q n) n
  generalize decP (decQ q n) n = P at *
  refine Fit.append ?_ ?_
  · intro x hx
    split at hx
    · obtain rfl := List.mem_singleton.1 hx; decide
    · exact absurd hx List.not_mem_nil
  · unfold pointed
    split
    · exact digs_fit hd
    · refine Fit.append (Fit.append (digs_fit fun x hx => hd x (List.mem_of_mem_take hx)) fun x hx => ?_) (digs_fit fun x hx => hd x (List.mem_of_mem_drop hx))
      obtain rfl := List.mem_singleton.1 hx
      decide
theorem decQ_len {q : Rat} {n : Nat} (hs : Sz 8 q) (hn : n ≤ 1000) : (limbs (decQ q n)).length ≤ 134 :=
  limbs_divle (limbs_mulle hs.1 (Nat.le_trans (limbs_ten n) (show n / 8 + 1 ≤ 126 by omega)))
theorem decT_len {q : Rat} {n : Nat} (hs : Sz 8 q) (hn : n ≤ 1000) : (decT q n).length ≤ 20000 := by
  rw [decT_eq]
  have h1 := text_long (n := decQ q n) (decQ_len hs hn) (by decide)
  rw [strOf_size] at h1
  have h2 := (decP_len (decQ q n) n).2
  generalize decP (decQ q n) n = P at *
  have h3 : (pointed P n).length ≤ P.length + 1 := by
    unfold pointed
    split
    · omega
    · rw [List.length_append, List.length_append, List.length_take, List.length_drop, List.length_singleton]; omega
  rw [List.length_append]
  split
  · rw [List.length_singleton]; omega
  · rw [List.length_nil]; omega
end Go.Proofs.YtgajpmcjjefghaaGreatDoor
