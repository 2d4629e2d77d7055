/- attestlaw17.Told: the program's spans as the document's -/
import Derived.Test.YtnbbhpihlcglgaaRowAll
import Derived.Test.YtnbbhpihlcglgaaPTold
namespace Go.Proofs.Ytnbbhpihlcglgaa
open Go.RowKit Go.Att

theorem Bx.grown {w w' : World} {b : Nat} {cs : List Value} (h : Bx w b cs) {o : Option Nat} (hne : o ≠ some b) (hg : w.grownBy w' o) : Bx w' b cs := fun i v hv => by
  have h1 := h i v hv
  rw [← h1]
  exact World.cell?_of_block (hg.block b (World.block_lt_of_cell? _ _ h1) (fun e => hne e.symm))
end Go.Proofs.Ytnbbhpihlcglgaa
