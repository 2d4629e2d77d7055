/- attestref08.Coef -/
import Derived.Test.YtnbbhpihlcglgaaLinPlain
import Derived.Test.YtnbbhpihlcglgaaLinAll
import Derived.Test.YtnbbhpihlcglgaaRef5All
namespace Go.Proofs.Ytnbbhpihlcglgaa
open Go.RowKit Go.Att

abbrev RdY (w : World) (v : Value) (l : TL) (c : Rat) : Prop := RdEy 4 w v l c
theorem FormT.take {l : TL} (h : FormT l) (j : Nat) : FormT (l.take j) := ⟨h.1.sublist (List.take_sublist j l), fun t ht => h.2 t (List.mem_of_mem_take ht)⟩
theorem FormT.cf_sz {K : Nat} {l : TL} (h : FormT l) (hK : 1 ≤ K) (hs : ∀ t ∈ l, Sz K t.2) (x : Int) : Sz K (cf l x) := by
  by_cases h0 : cf l x = 0
  · rw [h0]; exact Sz.zero.le hK
  · obtain ⟨t, ht, e⟩ := (h.mem x).2 h0
    subst e
    rw [h.at ht]
    exact hs t ht
end Go.Proofs.Ytnbbhpihlcglgaa
