/- What is printed is read back: the plain law. -/
import Derived.Test.YtgajpmcjjefghaaGreatDoorPRtParse
namespace Go.Proofs.YtgajpmcjjefghaaGreatDoor
open Go.RowKit Go.Att

theorem pos_app {c : Nat} {D : List Nat} (R : List Nat) (h : ∀ x ∈ D, x ≠ c) : pos c (D ++ R) = D.length + pos c R := by
  induction D with
  | nil => simp
  | cons x D ih =>
    rw [List.cons_append, pos_cons, if_neg (h x List.mem_cons_self), ih fun y hy => h y (List.mem_cons_of_mem _ hy), List.length_cons]
    omega
theorem pos_nil (c : Nat) : pos c [] = 0 := rfl
theorem digs_ne {D : List Nat} (h : Digs D) {c : Nat} (hc : c < 48) : ∀ x ∈ D, x ≠ c := fun x hx => by have := h x hx; omega
theorem strip_digs {D : List Nat} (R : List Nat) (h : Digs D) (h0 : 0 < D.length) : stripN (D ++ R) = (false, D ++ R) := by
  cases D with
  | nil => exact absurd h0 (by decide)
  | cons x D =>
    rw [List.cons_append, stripN_cons, if_neg (by have := h x List.mem_cons_self; omega)]
theorem strip_sign (q : Rat) {D : List Nat} (R : List Nat) (h : Digs D) (h0 : 0 < D.length) : stripN (signT q ++ (D ++ R)) = (decide (q.num < 0), D ++ R) := by
  unfold signT
  by_cases hn : q.num < 0
  · rw [if_pos hn, decide_eq_true hn]; rfl
  · rw [if_neg hn, decide_eq_false hn, List.nil_append]; exact strip_digs R h h0
theorem goodB_text (n : Nat) : goodB (dtext n) = true := goodB_iff.2 ⟨dtext_pos n, dtext_digs n⟩
theorem mkQ_back (q : Rat) : mkQ (decide (q.num < 0)) q.num.natAbs q.den = q := by
  unfold mkQ sg
  by_cases hn : q.num < 0
  · rw [decide_eq_true hn]
    have : (if (true : Bool) = true then -(q.num.natAbs : Int) else (q.num.natAbs : Int)) = q.num := by rw [if_pos rfl]; omega
    rw [this, Rat.mkRat_self]
  · rw [decide_eq_false hn]
    have : (if (false : Bool) = true then -(q.num.natAbs : Int) else (q.num.natAbs : Int)) = q.num := by rw [if_neg (by decide)]; omega
    rw [this, Rat.mkRat_self]
theorem read_print (q : Rat) : readT (printT q) = some q := by
  have hD := dtext_digs q.num.natAbs
  have hp := dtext_pos q.num.natAbs
  unfold readT
  by_cases hd : q.den = 1
  · have e : printT q = signT q ++ (dtext q.num.natAbs ++ []) := by unfold printT; rw [if_pos hd, List.append_assoc]
    rw [e, strip_sign q [] hD hp]
    dsimp only
    rw [pos_app [] (digs_ne hD (by decide)), pos_app [] (digs_ne hD (by decide)), pos_nil, pos_nil, List.append_nil, Nat.add_zero, if_neg (Nat.lt_irrefl _), if_neg (Nat.lt_irrefl _)]
    unfold frac
    rw [if_pos (goodB_text _), if_neg (by decide), dtext_num]
    have := mkQ_back q
    rw [hd] at this
    rw [this]
  · have e : printT q = signT q ++ (dtext q.num.natAbs ++ (47 :: dtext q.den)) := by unfold printT; rw [if_neg hd, List.append_assoc]; rfl
    rw [e, strip_sign q _ hD hp]
    dsimp only
    rw [pos_app _ (digs_ne hD (by decide)), pos_cons, if_pos rfl, Nat.add_zero, if_pos (by simp), List.take_left' rfl, show (dtext q.num.natAbs ++ 47 :: dtext q.den).drop ((dtext q.num.natAbs).length + 1) = dtext q.den by rw [← List.drop_drop, List.drop_left' rfl]; rfl, if_pos (goodB_text _)]
    unfold frac
    rw [if_pos (goodB_text _), dtext_num, dtext_num, if_neg q.den_nz, mkQ_back]
theorem print_inj {p q : Rat} (h : printT p = printT q) : p = q := by
  have h1 := read_print p
  rw [h, read_print q] at h1
  exact (Option.some.inj h1).symm
theorem print_fit (q : Rat) : Fit 256 (printT q) := by
  unfold printT signT
  intro x hx
  have hd : ∀ n, ∀ y ∈ dtext n, y < 256 := fun n y hy => by have := dtext_digs n y hy; omega
  rcases List.mem_append.1 hx with h | h
  · rcases List.mem_append.1 h with h | h
    · split at h
      · obtain rfl := List.mem_singleton.1 h; decide
      · exact absurd h List.not_mem_nil
    · exact hd _ x h
  · split at h
    · exact absurd h List.not_mem_nil
    · rcases List.mem_append.1 h with h | h
      · obtain rfl := List.mem_singleton.1 h; decide
      · exact hd _ x h
theorem print_len {q : Rat} (h : Sz 900 q) : (printT q).length ≤ 20000 := by
  have h1 := text_long (n := q.num.natAbs) h.1 (by decide)
  have h2 := text_long (n := q.den) h.2 (by decide)
  have h3 := sign_long q
  rw [strOf_size] at h1 h2 h3
  unfold printT
  rw [List.length_append, List.length_append]
  split
  · simp; omega
  · rw [List.length_append, List.length_singleton]; omega
end Go.Proofs.YtgajpmcjjefghaaGreatDoor
