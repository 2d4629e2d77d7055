/- Sums in form, by what their coefficients are: the program's side, the document's side, and the document's yes. -/
import Derived.Test.YtnbbhpihlcglgaaPR8Means
import Derived.Test.YtnbbhpihlcglgaaPTold8
import Derived.Test.YtnbbhpihlcglgaaLinAll
import Derived.Test.YtnbbhpihlcglgaaPExpr8
namespace Go.Proofs.Ytnbbhpihlcglgaa
open Go.RowKit Go.Att

/-- v is an expression in form with the coefficients F and the constant c, none too big. -/
def Rep (w : World) (v : Value) (F : Int → Rat) (c : Rat) : Prop := ∃ l, FormT l ∧ (∀ x, cf l x = F x) ∧ Okx 380 l c ∧ RdX w v l c
def RepY (w : World) (v : Value) (F : Int → Rat) (c : Rat) : Prop := ∃ l, FormT l ∧ (∀ x, cf l x = F x) ∧ Okx 380 l c ∧ RdY w v l c
theorem Rep.ext {w w' : World} {v : Value} {F : Int → Rat} {c : Rat} (h : Rep w v F c) (x : Ext w w') : Rep w' v F c := by
  obtain ⟨l, h1, h2, h3, h4⟩ := h
  exact ⟨l, h1, h2, h3, h4.ext x⟩
theorem RepY.ext {w w' : World} {v : Value} {F : Int → Rat} {c : Rat} (h : RepY w v F c) (x : Ext w w') : RepY w' v F c := by
  obtain ⟨l, h1, h2, h3, h4⟩ := h
  exact ⟨l, h1, h2, h3, h4.ext x⟩
/-- At most twelve terms of small numbers. -/
def Smx (l : TL) (c : Rat) : Prop := l.length ≤ 12 ∧ (∀ t ∈ l, Sz 8 t.2) ∧ Sz 8 c
theorem Smx.cf {l : TL} {c : Rat} (h : Smx l c) (x : Int) : Sz 109 (cf l x) := (cf_sz h.2.1 x).le (by have := h.1; omega)
theorem tL_sm {w : World} {v : Value} {l : List (Int × NN)} {n : NN} (hv : RdNE w v l n) : Smx (tL l) (qN n) := ⟨tL_len l, (tL_sz hv).1, (tL_sz hv).2⟩
theorem expr8_sm {w : World} {v : Value} {l : List (Int × NN)} {n : NN} (hv : RdNE w v l n) (hs : ∀ t ∈ l, Nlt 1000000000 t.2) (hn : Nlt 1000000000 n) :
    Calls Try.prog 31 #[v] w (Gives w fun v' w' => OwnX 0 w' v' (tL l) (qN n)) :=
  (expr8_any hv hs hn).mono fun _ _ ⟨v, e, b, o⟩ => ⟨v, e, b, o.mono (Nat.zero_le _)⟩
end Go.Proofs.Ytnbbhpihlcglgaa
