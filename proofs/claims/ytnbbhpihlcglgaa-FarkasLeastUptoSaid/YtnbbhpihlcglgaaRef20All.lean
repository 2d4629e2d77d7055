/- A group of texts: Is20P, PRef20Vars, PRef20At, PRef20Const, PRef20Strict, PRef20Is, PRef20Check -/
import Derived.Test.YtnbbhpihlcglgaaFark
import Derived.Test.YtnbbhpihlcglgaaPR8Vars
import Derived.Test.YtnbbhpihlcglgaaPAtomL
import Derived.Test.YtnbbhpihlcglgaaPR8Coef
import Derived.Test.YtnbbhpihlcglgaaRef5All
import Derived.Test.YtnbbhpihlcglgaaPR8Form
/- How many variables count: plain. -/
namespace Go.Proofs.Ytnbbhpihlcglgaa
open Go.RowKit Go.Att

end Go.Proofs.Ytnbbhpihlcglgaa

/- attestref20.vars -/
namespace Go.Proofs.Ytnbbhpihlcglgaa
open Go.RowKit Go.Att

def OwnYp (w : World) (v : Value) (p : TL × Rat) : Prop := OwnY 0 w v p.1 p.2
theorem OwnYp.ext {w w' : World} {v : Value} {p : TL × Rat} (h : OwnYp w v p) (x : Ext w w') : OwnYp w' v p := OwnEy.ext h x
end Go.Proofs.Ytnbbhpihlcglgaa

/- attestref20.at -/
namespace Go.Proofs.Ytnbbhpihlcglgaa
open Go.RowKit Go.Att

end Go.Proofs.Ytnbbhpihlcglgaa

/- attestref20.Const -/
namespace Go.Proofs.Ytnbbhpihlcglgaa
open Go.RowKit Go.Att

end Go.Proofs.Ytnbbhpihlcglgaa

/- attestref20.Strict -/
namespace Go.Proofs.Ytnbbhpihlcglgaa
open Go.RowKit Go.Att

end Go.Proofs.Ytnbbhpihlcglgaa

/- attestref20.Is, where the answer is yes; attestref20.Refutes -/
namespace Go.Proofs.Ytnbbhpihlcglgaa
open Go.RowKit Go.Att

/-- What the document's Refutes says. -/
def RefD (L : List AT) (P : List Rat) : Prop := (∀ x, fcf (L.zip P) x = 0) ∧ (0 < (fct (L.zip P)).num.sign ∨ (fct (L.zip P)).num.sign = 0 ∧ fst' (L.zip P) = true)
end Go.Proofs.Ytnbbhpihlcglgaa

/- attestref20.Check -/
namespace Go.Proofs.Ytnbbhpihlcglgaa
open Go.RowKit Go.Att

/-- The document's number for an error. -/
def chk20 (L : List AT) (P : List Rat) : Int := if L.length ≠ P.length then 1 else if (L.zip P).any fbad = true then 4 else 0
end Go.Proofs.Ytnbbhpihlcglgaa
