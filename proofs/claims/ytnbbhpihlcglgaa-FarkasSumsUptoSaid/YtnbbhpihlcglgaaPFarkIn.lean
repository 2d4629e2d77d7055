/- What comes into the statements on Farkas's numbers. -/
import Derived.Test.YtnbbhpihlcglgaaFrameA
import Derived.Test.YtnbbhpihlcglgaaPAtom2
import Derived.Test.YtnbbhpihlcglgaaPFarkRef
import Derived.Test.YtnbbhpihlcglgaaPAtomL
import Derived.Test.YtnbbhpihlcglgaaPNums
import Derived.Test.YtnbbhpihlcglgaaRef20All
namespace Go.Proofs.Ytnbbhpihlcglgaa
open Go.ChangeShapes Go.WideShapes Go.ChangeAt Go.RowKit Go.Att

theorem sz8_rowN {w : World} {v : Value} {l : List NN} (hv : RdRow 3 RdNp w v l) (n : Nat) : ∀ p ∈ (l.take n).map qN, Sz 8 p := by
  intro p hp
  obtain ⟨q, hq, rfl⟩ := List.mem_map.1 hp
  obtain ⟨i, hi, rfl⟩ := List.getElem_of_mem (List.mem_of_mem_take hq)
  obtain ⟨a, c, rfl, -, -⟩ := hv.shape
  obtain ⟨_, _, cs, -, -, hT, -⟩ := hv.at (by decide) i hi
  obtain ⟨_, _, _, h1, h2⟩ := hT
  exact qOf_sz h1.2 h2.2
theorem smx_rowA {w : World} {v : Value} {l : List NAT} (hv : RdRow 5 RdNA w v l) (n : Nat) : ∀ a ∈ (l.take n).map atA, Smx a.1.1 a.1.2 := by
  intro p hp
  obtain ⟨q, hq, rfl⟩ := List.mem_map.1 hp
  obtain ⟨i, hi, rfl⟩ := List.getElem_of_mem (List.mem_of_mem_take hq)
  obtain ⟨a, c, rfl, -, -⟩ := hv.shape
  obtain ⟨_, _, cs, -, -, ⟨_, _, _, _, _, hT⟩, -⟩ := hv.at (by decide) i hi
  exact tL_sm hT
theorem atoms_in {w : World} {v : Value} {l : List NAT} (hb : ∀ p ∈ l, bA p ≤ 1048576) (h : RdRow 5 RdNA w v l) : Calls Try.prog 54 #[v] w (Gives w fun v' w' => RdRow 5 OwnA w' v' ((l.take 10).map atA)) :=
  (atoms_any h fun p hp => by
    have := hb p hp
    unfold bA at this
    exact ⟨fun t ht => by
      have h2 := mxl_in ht
      unfold bN at h2
      exact ⟨by omega, by omega⟩, by
      unfold bN at this
      exact ⟨by omega, by omega⟩⟩).mono fun _ _ ⟨v, e, b, o⟩ => ⟨v, e, b, OwnRow.rd o⟩
theorem rats_in {w : World} {v : Value} {l : List NN} (hb : ∀ p ∈ l, bN p ≤ 1048576) (h : RdRow 3 RdNp w v l) : Calls Try.prog 55 #[v] w (Gives w fun v' w' => RdRow 3 (OwnQp 163) w' v' ((l.take 10).map qN)) :=
  (rats20_any h fun p hp => by
    have := hb p hp
    unfold bN at this
    exact ⟨by omega, by omega⟩).mono fun _ _ ⟨v, e, b, o⟩ => ⟨v, e, b, OwnRow.rd o⟩
theorem list9_in {w : World} {v : Value} {L : List AT} (hv : RdRow 5 OwnA w v L) (hs : ∀ a ∈ L, Smx a.1.1 a.1.2) (hl : L.length ≤ 1000) : Calls Try.prog 59 #[v] w (Gives w fun v' w' => RdRow 5 OwnB9 w' v' L) :=
  (list9_any hv hs hl).mono fun _ _ ⟨v, e, b, o⟩ => ⟨v, e, b, OwnRow.rd o⟩
theorem nums_in {w : World} {v : Value} {P : List Rat} (hv : RdRow 3 (OwnQp 163) w v P) (hs : ∀ p ∈ P, Sz 20 p) (hl : P.length ≤ 1000) : Calls Try.prog 24 #[v] w (Gives w fun v' w' => RdRow 3 (OwnPp 4) w' v' P) :=
  (nums_any (RdRow.mono hv fun _ _ h => OwnQ.rd h) (fun p hp => (hs p hp).le (by decide)) (by omega)).mono fun _ _ ⟨v, e, b, o⟩ => ⟨v, e, b, OwnRow.rd o⟩
theorem chk20_zero {L : List AT} {P : List Rat} (h : chk20 L P = 0) : L.length = P.length ∧ ¬ (L.zip P).any fbad = true := by
  unfold chk20 at h
  by_cases h1 : L.length = P.length
  · refine ⟨h1, fun h2 => ?_⟩
    rw [if_neg (fun h => h h1), if_pos h2] at h
    exact absurd h (by decide)
  · rw [if_pos h1] at h
    exact absurd h (by decide)
theorem sum_bad {L : List AT} {P : List Rat} {w : World} {u : Value} {sb : Bool} {e : Int} (h0 : chk20 L P ≠ 0) (h : SumR L P w u sb e) : OwnX 0 w u [] 0 ∧ sb = false ∧ e = chk20 L P := by
  unfold SumR at h
  unfold chk20 at h0 ⊢
  by_cases h1 : L.length = P.length
  · rw [if_neg (fun h => h h1)] at h h0 ⊢
    by_cases h2 : (L.zip P).any fbad = true
    · rw [if_pos h2] at h ⊢
      exact h
    · rw [if_neg h2] at h0
      exact absurd rfl h0
  · rw [if_pos h1] at h ⊢
    exact h
theorem ref_bad {L : List AT} {P : List Rat} {t : Bool} {e : Int} (h0 : chk20 L P ≠ 0) (h : RefV L P t e) : t = false ∧ e = chk20 L P := by
  unfold RefV at h
  unfold chk20 at h0 ⊢
  by_cases h1 : L.length = P.length
  · rw [if_neg (fun h => h h1)] at h h0 ⊢
    by_cases h2 : (L.zip P).any fbad = true
    · rw [if_pos h2] at h ⊢
      exact h
    · rw [if_neg h2] at h0
      exact absurd rfl h0
  · rw [if_pos h1] at h ⊢
    exact h
theorem sum_ok {L : List AT} {P : List Rat} {w : World} {u : Value} {sb : Bool} {e : Int} (h0 : chk20 L P = 0) (h : SumR L P w u sb e) : ∃ l, FormT l ∧ (∀ x, cf l x = fcf (L.zip P) x) ∧ l.length ≤ 120 ∧ sb = fst' (L.zip P) ∧ e = 0 ∧ OwnX 0 w u l (fct (L.zip P)) := by
  obtain ⟨h1, h2⟩ := chk20_zero h0
  unfold SumR at h
  rwa [if_neg (fun h => h h1), if_neg h2] at h
theorem ref_ok {L : List AT} {P : List Rat} {t : Bool} {e : Int} (h0 : chk20 L P = 0) (h : RefV L P t e) : e = 0 ∧ (t = true ↔ RefD L P) := by
  obtain ⟨h1, h2⟩ := chk20_zero h0
  unfold RefV at h
  rwa [if_neg (fun h => h h1), if_neg h2] at h
end Go.Proofs.Ytnbbhpihlcglgaa
