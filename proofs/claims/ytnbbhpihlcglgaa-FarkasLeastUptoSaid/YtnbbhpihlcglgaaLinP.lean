/- Sizes of expressions. Nothing here walks. -/
import Derived.Test.YtnbbhpihlcglgaaPR8Coef
import Derived.Test.YtnbbhpihlcglgaaLinPlain
namespace Go.Proofs.Ytnbbhpihlcglgaa
open Go.RowKit Go.Att

theorem FormT.szs {K : Nat} {l : TL} (h : FormT l) (hc : ∀ x, Sz K (cf l x)) : ∀ t ∈ l, Sz K t.2 := fun t ht => by rw [← FormT.at h ht]; exact hc t.1
/-- An expression whose coefficients, parts of coefficients and constant are of at most K limbs. -/
def Okx (K : Nat) (l : TL) (c : Rat) : Prop := l.length ≤ 1000 ∧ (∀ t ∈ l, Sz K t.2) ∧ (∀ x j, Sz K (cf (l.take j) x)) ∧ Sz K c
theorem Okx.of {K L n : Nat} {l : TL} {c : Rat} (h : ∀ t ∈ l, Sz L t.2) (hl : l.length ≤ n) (hn : n ≤ 1000) (hc : Sz L c) (hK : n * (L + 1) + 1 + L ≤ K) : Okx K l c := by
  have h1 : l.length * (L + 1) ≤ n * (L + 1) := Nat.mul_le_mul_right _ hl
  exact ⟨by omega, fun t ht => (h t ht).le (by omega), fun x j => (cf_take_sz h j x).le (by omega), hc.le (by omega)⟩
theorem Okx.cf {K : Nat} {l : TL} {c : Rat} (h : Okx K l c) (x : Int) : Sz K (cf l x) := by
  have := h.2.2.1 x l.length
  rwa [List.take_length] at this
theorem Okx.le {K M : Nat} {l : TL} {c : Rat} (h : Okx K l c) (hM : K ≤ M) : Okx M l c := ⟨h.1, fun t ht => (h.2.1 t ht).le hM, fun x j => (h.2.2.1 x j).le hM, h.2.2.2.le hM⟩
theorem tL_sz {w : World} {v : Value} {l : List (Int × NN)} {n : NN} (hv : RdNE w v l n) : (∀ t ∈ tL l, Sz 8 t.2) ∧ Sz 8 (qN n) := by
  obtain ⟨s, y, z, rfl, hrow, ⟨_, _, _, h3, h4⟩⟩ := hv
  refine ⟨fun p hp => ?_, qOf_sz h3.2 h4.2⟩
  obtain ⟨q, hq, rfl⟩ := List.mem_map.1 hp
  obtain ⟨i, hi, rfl⟩ := List.getElem_of_mem (List.mem_of_mem_take hq)
  obtain ⟨a, c, rfl, -, -⟩ := hrow.shape
  obtain ⟨_, _, cs, -, -, hT, -⟩ := hrow.at (by decide) i hi
  obtain ⟨_, _, -, ⟨_, _, _, h1, h2⟩⟩ := hT
  exact qOf_sz h1.2 h2.2
end Go.Proofs.Ytnbbhpihlcglgaa
