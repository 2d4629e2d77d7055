/-
  DERIVED. GIVEN WITH THE SEED: THE CARDS: each row of YtndjddeiilggpaaDoorRows.lean that lists a variable, with what it lists TIED to the program's text (the seventh form; the later family's looks); each row that meets fmt, with fmt's text TOLD by the authors' own Lean function (tested against real Go, not proved from fmt's source: count such statements apart). THE CARD IS WHAT COUNTS. Prove the row's statement (the work); the ties are given (YtndjddeiilggpaaDoorTie.lean); close each card by the builder's one call (the guide's Derived/Test/ToyasCard.lean, 'card_holds'). Laid BY PROGRAM, IN A SANDBOX (cutbox-door.mjs). By AI agents, Wed Nov 11 2026. No macro, syntax, notation, axiom, sorry.
-/
import Derived.Test.YtndjddeiilggpaaDoorRows
import GoSem.ClaimSeven
namespace Go.Proofs.YtndjddeiilggpaaDoor
namespace Rows

/-- THE TIED CARD OF 'attestlaw02.LimbForms'. -/
def limbFormsCard : Claim7 := { stood := { row := limbFormsRow, standIns := [], harness := (true, "04e013a35ed43a7fc5899affe8cc22277bc66c67266ec1788c0ed8f716118523"), looks := false }, kinds := [], alts := [], laidByText := true, laidKinds := [.data], laidTests := true, laidLooks := .later }
def LimbFormsCardSaid : Prop := Claim7.holds Tryd.pinned (.plain (OpenSpec.ofChange limbFormsSpec)) limbFormsCard

/-- THE SECOND FORM's CARD OF 'attestlaw02.LimbForms'. -/
def limbFormsUptoCard : Claim7 := { stood := { row := limbFormsUptoRow, standIns := [], harness := (true, "04e013a35ed43a7fc5899affe8cc22277bc66c67266ec1788c0ed8f716118523"), looks := false }, kinds := [], alts := [], laidByText := true, laidKinds := [.data], laidTests := true, laidLooks := .later }
def LimbFormsUptoCardSaid : Prop := Claim7.holds Tryd.pinned (.plain (OpenSpec.upto limbFormsSpec)) limbFormsUptoCard
end Rows
end Go.Proofs.YtndjddeiilggpaaDoor
