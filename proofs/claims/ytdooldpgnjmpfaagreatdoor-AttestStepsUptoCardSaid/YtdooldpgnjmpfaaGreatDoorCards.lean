/-
  DERIVED. GIVEN WITH THE SEED: THE CARDS: each row of YtdooldpgnjmpfaaGreatDoorRows.lean that lists a variable, with what it lists TIED to the program's text (the seventh form; the later family's looks); each row that meets fmt, with fmt's text TOLD by the authors' own Lean function (tested against real Go, not proved from fmt's source: count such statements apart). THE CARD IS WHAT COUNTS. Prove the row's statement (the work); the ties are given (YtdooldpgnjmpfaaGreatDoorTie.lean); close each card by the builder's one call (the guide's Derived/Test/ToyasCard.lean, 'card_holds'). Laid BY PROGRAM, IN A SANDBOX (cutbox-door.mjs). By AI agents, Wed Nov 11 2026. No macro, syntax, notation, axiom, sorry.
-/
import Derived.Test.YtdooldpgnjmpfaaGreatDoorRows
import GoSem.ClaimSeven
namespace Go.Proofs.YtdooldpgnjmpfaaGreatDoor
namespace Rows

/-- THE TIED CARD OF 'attesttop.AttestSteps'. -/
def attestStepsCard : Claim7 := { stood := { row := attestStepsRow, standIns := [], harness := (true, "83796a9f30f325b1246a1783b91231ec13a0eedbc216518c598c80cfe1ba6309"), looks := false }, kinds := [], alts := [], laidByText := true, laidKinds := [.data, .data, .data, .data, .pinned], laidTests := true, laidLooks := .later }
def AttestStepsCardSaid : Prop := Claim7.holds Tryz.pinned (.plain (OpenSpec.ofChange attestStepsSpec)) attestStepsCard

/-- THE SECOND FORM's CARD OF 'attesttop.AttestSteps'. -/
def attestStepsUptoCard : Claim7 := { stood := { row := attestStepsUptoRow, standIns := [], harness := (true, "83796a9f30f325b1246a1783b91231ec13a0eedbc216518c598c80cfe1ba6309"), looks := false }, kinds := [], alts := [], laidByText := true, laidKinds := [.data, .data, .data, .data, .pinned], laidTests := true, laidLooks := .later }
def AttestStepsUptoCardSaid : Prop := Claim7.holds Tryz.pinned (.plain (OpenSpec.upto attestStepsSpec)) attestStepsUptoCard
end Rows
end Go.Proofs.YtdooldpgnjmpfaaGreatDoor
