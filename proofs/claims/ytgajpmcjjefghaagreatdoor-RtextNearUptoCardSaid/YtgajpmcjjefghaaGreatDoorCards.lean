/-
  DERIVED. GIVEN WITH THE SEED: THE CARDS: each row of YtgajpmcjjefghaaGreatDoorRows.lean that lists a variable, with what it lists TIED to the program's text (the seventh form; the later family's looks); each row that meets fmt, with fmt's text TOLD by the authors' own Lean function (tested against real Go, not proved from fmt's source: count such statements apart). THE CARD IS WHAT COUNTS. Prove the row's statement (the work); the ties are given (YtgajpmcjjefghaaGreatDoorTie.lean); close each card by the builder's one call (the guide's Derived/Test/ToyasCard.lean, 'card_holds'). Laid BY PROGRAM, IN A SANDBOX (cutbox-door.mjs). By AI agents, Wed Nov 11 2026. No macro, syntax, notation, axiom, sorry.
-/
import Derived.Test.YtgajpmcjjefghaaGreatDoorRows
import GoSem.ClaimSeven
namespace Go.Proofs.YtgajpmcjjefghaaGreatDoor
namespace Rows

/-- THE TIED CARD OF 'attestlaw06.RtextPoints'. -/
def rtextPointsCard : Claim7 := { stood := { row := rtextPointsRow, standIns := [], harness := (true, "1fec8ef6bc859fb86e6d72db7211d505973d6e2693191e7b50c4a92cfa665bae"), looks := false }, kinds := [], alts := [], laidByText := true, laidKinds := [.data, .pinned], laidTests := true, laidLooks := .later }
def RtextPointsCardSaid : Prop := Claim7.holds Tryz.pinned (.plain (OpenSpec.ofChange rtextPointsSpec)) rtextPointsCard

/-- THE TIED CARD OF 'attestlaw06.RtextNear'. -/
def rtextNearCard : Claim7 := { stood := { row := rtextNearRow, standIns := [], harness := (true, "1fec8ef6bc859fb86e6d72db7211d505973d6e2693191e7b50c4a92cfa665bae"), looks := false }, kinds := [], alts := [], laidByText := true, laidKinds := [.data, .pinned], laidTests := true, laidLooks := .later }
def RtextNearCardSaid : Prop := Claim7.holds Tryz.pinned (.plain (OpenSpec.ofChange rtextNearSpec)) rtextNearCard

/-- THE SECOND FORM's CARD OF 'attestlaw06.RtextPoints'. -/
def rtextPointsUptoCard : Claim7 := { stood := { row := rtextPointsUptoRow, standIns := [], harness := (true, "1fec8ef6bc859fb86e6d72db7211d505973d6e2693191e7b50c4a92cfa665bae"), looks := false }, kinds := [], alts := [], laidByText := true, laidKinds := [.data, .pinned], laidTests := true, laidLooks := .later }
def RtextPointsUptoCardSaid : Prop := Claim7.holds Tryz.pinned (.plain (OpenSpec.upto rtextPointsSpec)) rtextPointsUptoCard

/-- THE SECOND FORM's CARD OF 'attestlaw06.RtextNear'. -/
def rtextNearUptoCard : Claim7 := { stood := { row := rtextNearUptoRow, standIns := [], harness := (true, "1fec8ef6bc859fb86e6d72db7211d505973d6e2693191e7b50c4a92cfa665bae"), looks := false }, kinds := [], alts := [], laidByText := true, laidKinds := [.data, .pinned], laidTests := true, laidLooks := .later }
def RtextNearUptoCardSaid : Prop := Claim7.holds Tryz.pinned (.plain (OpenSpec.upto rtextNearSpec)) rtextNearUptoCard
end Rows
end Go.Proofs.YtgajpmcjjefghaaGreatDoor
