/- attestref17.top, Relu, Same -/
import Derived.Test.YtnbbhpihlcglgaaPTold17
import Derived.Test.YtnbbhpihlcglgaaPSpan2
import Derived.Test.YtnbbhpihlcglgaaRef5All
namespace Go.Proofs.Ytnbbhpihlcglgaa
open Go.RowKit Go.Att

/-- Cells from a place on. -/
def Bo (w : World) (b o : Nat) (cs : List Value) : Prop := ∀ j v, cs[j]? = some v → w.cell? ⟨b, o + j, none⟩ = some v
theorem Bo.ext {w w' : World} {b o : Nat} {cs : List Value} (h : Bo w b o cs) (e : Ext w w') : Bo w' b o cs := fun j v hv => e.cell (h j v hv)
theorem Bo.of {w : World} {b o n : Nat} {cs : List Value} (h : ∀ j, j < n → w.cell? ⟨b, o + j, none⟩ = cs[j]?) (hn : cs.length = n := by rfl) : Bo w b o cs := fun j v hv => by
  rw [h j (by have := (List.getElem?_eq_some_iff.1 hv).1; omega), hv]
theorem Bo.c6 {w : World} {b o : Nat} {x0 x1 x2 x3 x4 x5 : Value} {l : List Value} (h : Bo w b o (x0 :: x1 :: x2 :: x3 :: x4 :: x5 :: l)) : w.cell? ⟨b, o, none⟩ = some x0 ∧ w.cell? ⟨b, o + 1, none⟩ = some x1 ∧ w.cell? ⟨b, o + 2, none⟩ = some x2 ∧ w.cell? ⟨b, o + 3, none⟩ = some x3 ∧ w.cell? ⟨b, o + 4, none⟩ = some x4 ∧ w.cell? ⟨b, o + 5, none⟩ = some x5 :=
  ⟨h 0 _ rfl, h 1 _ rfl, h 2 _ rfl, h 3 _ rfl, h 4 _ rfl, h 5 _ rfl⟩
end Go.Proofs.Ytnbbhpihlcglgaa
