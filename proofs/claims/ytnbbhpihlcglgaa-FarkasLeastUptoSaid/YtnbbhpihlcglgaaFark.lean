/- Sums of constraints taken so many times: plain. Nothing here walks. -/
import Derived.Test.YtnbbhpihlcglgaaAtom
import Derived.Test.YtnbbhpihlcglgaaPLinReps
namespace Go.Proofs.Ytnbbhpihlcglgaa
open Go.RowKit Go.Att

abbrev AZ := AT × Rat
def fcf : List AZ → Int → Rat
  | [], _ => 0
  | z :: l, x => z.2 * cf z.1.1.1 x + fcf l x
def fct : List AZ → Rat
  | [] => 0
  | z :: l => z.2 * z.1.1.2 + fct l
def fst' : List AZ → Bool
  | [] => false
  | z :: l => (z.1.2 == 2 && decide (0 < z.2.num.sign)) || fst' l
/-- May it not be taken so? -/
def fbad (z : AZ) : Bool := !(decide (1 ≤ z.1.2 ∧ z.1.2 ≤ 3)) || (z.1.2 != 3 && decide (z.2.num.sign < 0))
theorem fcf_app (l m : List AZ) (x : Int) : fcf (l ++ m) x = fcf l x + fcf m x := by
  induction l with
  | nil => show fcf m x = 0 + _; rw [Rat.zero_add]
  | cons t l ih => show _ + fcf (l ++ m) x = (_ + _) + _; rw [ih, Rat.add_assoc]
theorem fct_app (l m : List AZ) : fct (l ++ m) = fct l + fct m := by
  induction l with
  | nil => show fct m = 0 + _; rw [Rat.zero_add]
  | cons t l ih => show _ + fct (l ++ m) = (_ + _) + _; rw [ih, Rat.add_assoc]
theorem fst_app (l m : List AZ) : fst' (l ++ m) = (fst' l || fst' m) := by
  induction l with
  | nil => show fst' m = (false || _); rw [Bool.false_or]
  | cons t l ih => show (_ || fst' (l ++ m)) = ((_ || _) || _); rw [ih, Bool.or_assoc]
theorem fcf_one (z : AZ) (x : Int) : fcf [z] x = z.2 * cf z.1.1.1 x := by show _ + 0 = _; rw [Rat.add_zero]
theorem fct_one (z : AZ) : fct [z] = z.2 * z.1.1.2 := by show _ + 0 = _; rw [Rat.add_zero]
theorem fst_one (z : AZ) : fst' [z] = (z.1.2 == 2 && decide (0 < z.2.num.sign)) := by show (_ || false) = _; rw [Bool.or_false]
theorem fcf_sz {l : List AZ} (h : ∀ z ∈ l, Smx z.1.1.1 z.1.1.2 ∧ Sz 20 z.2) (x : Int) : Sz (l.length * 130 + 1) (fcf l x) := by
  induction l with
  | nil => exact Sz.zero
  | cons z l ih =>
    have h1 := h z List.mem_cons_self
    refine ((h1.2.mul (h1.1.cf x)).add (ih fun y hy => h y (List.mem_cons_of_mem _ hy))).le ?_
    simp only [List.length_cons]
    omega
theorem fct_sz {l : List AZ} (h : ∀ z ∈ l, Smx z.1.1.1 z.1.1.2 ∧ Sz 20 z.2) : Sz (l.length * 30 + 1) (fct l) := by
  induction l with
  | nil => exact Sz.zero
  | cons z l ih =>
    have h1 := h z List.mem_cons_self
    refine ((h1.2.mul h1.1.2.2).add (ih fun y hy => h y (List.mem_cons_of_mem _ hy))).le ?_
    simp only [List.length_cons]
    omega
theorem zip_snoc {L : List AT} {P : List Rat} {j : Nat} (h1 : j < L.length) (h2 : j < P.length) : (L.zip P).take (j + 1) = (L.zip P).take j ++ [(L[j], gt P j)] := by
  have h3 : j < (L.zip P).length := by rw [List.length_zip]; omega
  rw [← List.take_append_getElem h3, List.getElem_zip, gt_lt h2]
theorem zip_in {L : List AT} {P : List Rat} (hL : ∀ a ∈ L, Smx a.1.1 a.1.2) (hP : ∀ p ∈ P, Sz 20 p) (j : Nat) : ∀ z ∈ (L.zip P).take j, Smx z.1.1.1 z.1.1.2 ∧ Sz 20 z.2 := fun z hz => by
  have h := List.mem_of_mem_take hz
  exact ⟨hL _ (List.of_mem_zip h).1, hP _ (List.of_mem_zip h).2⟩
/-- What Sum gives. -/
def SumR (L : List AT) (P : List Rat) (w : World) (u : Value) (sb : Bool) (e : Int) : Prop :=
  if L.length ≠ P.length then OwnX 0 w u [] 0 ∧ sb = false ∧ e = 1
  else if (L.zip P).any fbad = true then OwnX 0 w u [] 0 ∧ sb = false ∧ e = 4
  else ∃ l, FormT l ∧ (∀ x, cf l x = fcf (L.zip P) x) ∧ l.length ≤ 120 ∧ sb = fst' (L.zip P) ∧ e = 0 ∧ OwnX 0 w u l (fct (L.zip P))
theorem ownx_nil (w : World) : OwnX 0 w (.agg #[.slice none 0 0, .bool false, .slice none 0 0, .slice none 0 0]) [] 0 := ⟨_, _, _, _, rfl, OwnRow.nil _ _ _, ownq_nil _ _⟩
end Go.Proofs.Ytnbbhpihlcglgaa
