/- The value of an expression at a point. Nothing here walks. -/
import Derived.Test.YtnbbhpihlcglgaaLinPlain
import Derived.Test.YtnbbhpihlcglgaaBq
import Derived.Test.YtnbbhpihlcglgaaRowAll
namespace Go.Att
open Go.RowKit

theorem Bo.c3 {w : World} {b o : Nat} {x0 x1 x2 : Value} {l : List Value} (h : Bo w b o (x0 :: x1 :: x2 :: l)) : w.cell? ⟨b, o, none⟩ = some x0 ∧ w.cell? ⟨b, o + 1, none⟩ = some x1 ∧ w.cell? ⟨b, o + 2, none⟩ = some x2 :=
  ⟨h 0 _ rfl, h 1 _ rfl, h 2 _ rfl⟩
/-- The value of one term. -/
def tmv (P : List Rat) (t : Int × Rat) : Rat := if 0 ≤ t.1 ∧ t.1 < P.length then t.2 * gt P t.1.toNat else 0
def tv (P : List Rat) : TL → Rat
  | [] => 0
  | t :: l => tmv P t + tv P l
theorem tv_app (P : List Rat) (l m : TL) : tv P (l ++ m) = tv P l + tv P m := by
  induction l with
  | nil => show tv P m = 0 + _; rw [Rat.zero_add]
  | cons t l ih => show _ + tv P (l ++ m) = (_ + _) + _; rw [ih, Rat.add_assoc]
theorem tv_snoc (P : List Rat) {l : TL} {j : Nat} (hj : j < l.length) : tv P (l.take (j + 1)) = tv P (l.take j) + tmv P (gt l j) := by
  rw [← List.take_append_getElem hj, tv_app, gt_lt hj]
  show _ + (tmv P _ + 0) = _
  rw [Rat.add_zero]
/-- The sum over the places from k on. -/
def smv (F : Int → Rat) : List Rat → Nat → Rat
  | [], _ => 0
  | p :: P, k => F k * p + smv F P (k + 1)
theorem smv_add (F G : Int → Rat) (P : List Rat) : ∀ k, smv (fun x => F x + G x) P k = smv F P k + smv G P k := by
  induction P with
  | nil => intro k; show (0 : Rat) = 0 + 0; rw [Rat.add_zero]
  | cons p P ih => intro k; show (F k + G k) * p + smv _ P (k + 1) = (F k * p + smv F P (k + 1)) + (G k * p + smv G P (k + 1)); rw [ih]; grind
theorem smv_mul (F : Int → Rat) (r : Rat) (P : List Rat) : ∀ k, smv (fun x => r * F x) P k = r * smv F P k := by
  induction P with
  | nil => intro k; show (0 : Rat) = r * 0; rw [Rat.mul_zero]
  | cons p P ih => intro k; show (r * F k) * p + smv _ P (k + 1) = r * (F k * p + smv F P (k + 1)); rw [ih]; grind
theorem smv_zero (P : List Rat) : ∀ k, smv (fun _ => 0) P k = 0 := by
  induction P with
  | nil => intro k; rfl
  | cons p P ih => intro k; show 0 * p + smv _ P (k + 1) = 0; rw [ih, Rat.zero_mul, Rat.add_zero]
theorem smv_one (x : Int) (q : Rat) (P : List Rat) : ∀ k : Nat, smv (fun y => if x = y then q else 0) P k = if (k : Int) ≤ x ∧ x < k + P.length then q * gt P (x - k).toNat else 0 := by
  induction P with
  | nil => intro k; rw [if_neg (fun h => by have h1 := h.1; have h2 := h.2; simp at h2; omega)]; rfl
  | cons p P ih =>
    intro k
    show (if x = (k : Int) then q else 0) * p + smv _ P (k + 1) = _
    rw [ih]
    by_cases h : x = (k : Int)
    · rw [if_pos h, if_neg (by omega), if_pos ⟨by omega, by simp; omega⟩, Rat.add_zero, show (x - (k : Int)).toNat = 0 by omega]
      rfl
    · rw [if_neg h, Rat.zero_mul, Rat.zero_add]
      by_cases h2 : (k : Int) ≤ x ∧ x < k + (p :: P).length
      · have h3 := h2.2
        simp at h3
        rw [if_pos (by omega), if_pos h2, show (x - (k : Int)).toNat = (x - ((k + 1 : Nat) : Int)).toNat + 1 by omega]
        rfl
      · rw [if_neg h2, if_neg]
        intro h4
        apply h2
        simp
        omega
theorem tv_smv (P : List Rat) (l : TL) : tv P l = smv (cf l) P 0 := by
  induction l with
  | nil => exact (smv_zero P 0).symm
  | cons t l ih =>
    show tmv P t + tv P l = smv (fun v => (if t.1 = v then t.2 else 0) + cf l v) P 0
    rw [smv_add, smv_one, ih]
    congr 1
    unfold tmv
    simp
theorem smv_congr {F G : Int → Rat} (h : ∀ x, F x = G x) (P : List Rat) (k : Nat) : smv F P k = smv G P k := by rw [funext h]
theorem gt_mem' {P : List Rat} {i : Nat} (h : i < P.length) : gt P i ∈ P := by rw [gt_lt h]; exact List.getElem_mem h
theorem tmv_sz {L M : Nat} {P : List Rat} {t : Int × Rat} (ht : Sz L t.2) (hP : ∀ p ∈ P, Sz M p) : Sz (L + M + 1) (tmv P t) := by
  unfold tmv
  split
  · rename_i h
    exact (ht.mul (hP _ (gt_mem' (by omega)))).le (by omega)
  · exact Sz.zero.le (by omega)
theorem tv_sz {L M : Nat} {P : List Rat} (c : Rat) {l : TL} (hc : Sz L c) (hl : ∀ t ∈ l, Sz L t.2) (hP : ∀ p ∈ P, Sz M p) : ∀ j, j ≤ l.length → Sz (j * (L + M + 2) + L) (c + tv P (l.take j)) := by
  intro j
  induction j with
  | zero => intro _; rw [List.take_zero]; show Sz _ (c + 0); rw [Rat.add_zero]; exact hc.le (by omega)
  | succ j ih =>
    intro hj
    rw [tv_snoc P (show j < l.length by omega), ← Rat.add_assoc]
    have h1 : Sz L (gt l j).2 := by rw [gt_lt (show j < l.length by omega)]; exact hl _ (List.getElem_mem _)
    refine ((ih (by omega)).add (tmv_sz h1 hP)).le ?_
    rw [Nat.succ_mul]
    omega
theorem smv_take (F : Int → Rat) {P : List Rat} {j : Nat} (hj : j < P.length) : smv F (P.take (j + 1)) 0 = smv F (P.take j) 0 + F j * gt P j := by
  have key : ∀ (P : List Rat) (q : Rat) (k : Nat), smv F (P ++ [q]) k = smv F P k + F (k + P.length : Nat) * q := by
    intro P q
    induction P with
    | nil => intro k; show F k * q + 0 = 0 + _; rw [Rat.add_zero, Rat.zero_add]; rfl
    | cons p P ih =>
      intro k
      show F k * p + smv F (P ++ [q]) (k + 1) = (F k * p + smv F P (k + 1)) + _
      rw [ih, Rat.add_assoc, show k + 1 + P.length = k + (p :: P).length by simp; omega]
  rw [← List.take_append_getElem hj, key, gt_lt hj, List.length_take, Nat.zero_add, Nat.min_eq_left (by omega)]
theorem smv_sz {L M N : Nat} {P : List Rat} {F : Int → Rat} (c : Rat) (hc : Sz N c) (hF : ∀ x, Sz L (F x)) (hP : ∀ p ∈ P, Sz M p) : ∀ j, j ≤ P.length → Sz (j * (L + M + 1) + N) (c + smv F (P.take j) 0) := by
  intro j
  induction j with
  | zero => intro _; rw [List.take_zero]; show Sz _ (c + 0); rw [Rat.add_zero]; exact hc.le (by omega)
  | succ j ih =>
    intro hj
    rw [smv_take F (show j < P.length by omega), ← Rat.add_assoc]
    refine ((ih (by omega)).add ((hF j).mul (hP _ (gt_mem' (show j < P.length by omega))))).le ?_
    rw [Nat.succ_mul]
    omega
/-- One number of a row. -/
theorem RdRow.oq {e : TypeId} {w : World} {a : Option Addr} {n c : Nat} {l : List Rat} (h : RdRow 3 (OwnQp e) w (.slice a n c) l) (i : Nat) (hi : i < l.length) :
    ∃ b off s x k m y k' m', a = some ⟨b, off, none⟩ ∧ Bo w b (off + i * 3) [.bool s, .slice x k m, .slice y k' m'] ∧ OwnQ e 0 w (.agg #[.bool s, .slice x k m, .slice y k' m']) (gt l i) := by
  obtain ⟨b1, o1, cs, he, hl, hT, hc⟩ := h.at (by decide) i hi
  obtain ⟨s, x, k, m, y, k', m', h1, h2⟩ := OwnQ.op hT
  have : cs = [.bool s, .slice x k m, .slice y k' m'] := by simpa using h1
  subst this
  exact ⟨b1, o1, s, x, k, m, y, k', m', he, Bo.of hc, by rw [gt_lt hi]; exact h2.out⟩
theorem RdRow.op' {e : TypeId} {w : World} {a : Option Addr} {n c : Nat} {l : List Rat} (h : RdRow 3 (OwnPp e) w (.slice a n c) l) (i : Nat) (hi : i < l.length) :
    ∃ b off s x k m y k' m', a = some ⟨b, off, none⟩ ∧ Bo w b (off + i * 3) [.bool s, .slice x k m, .slice y k' m'] ∧ OwnP e 0 w (.agg #[.bool s, .slice x k m, .slice y k' m']) (gt l i) := by
  obtain ⟨b1, o1, cs, he, hl, hT, hc⟩ := h.at (by decide) i hi
  obtain ⟨s, x, k, m, y, k', m', h1, h2⟩ := OwnP.op hT
  have : cs = [.bool s, .slice x k m, .slice y k' m'] := by simpa using h1
  subst this
  exact ⟨b1, o1, s, x, k, m, y, k', m', he, Bo.of hc, by rw [gt_lt hi]; exact h2.out⟩
end Go.Att
