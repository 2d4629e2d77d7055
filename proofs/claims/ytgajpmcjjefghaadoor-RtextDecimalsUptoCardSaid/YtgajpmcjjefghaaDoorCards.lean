/-
  DERIVED. GIVEN WITH THE SEED: THE CARDS: each row of YtgajpmcjjefghaaDoorRows.lean that lists a variable, with what it lists TIED to the program's text (the seventh form; the later family's looks); each row that meets fmt, with fmt's text TOLD by the authors' own Lean function (tested against real Go, not proved from fmt's source: count such statements apart). THE CARD IS WHAT COUNTS. Prove the row's statement (the work); the ties are given (YtgajpmcjjefghaaDoorTie.lean); close each card by the builder's one call (the guide's Derived/Test/ToyasCard.lean, 'card_holds'). Laid BY PROGRAM, IN A SANDBOX (cutbox-door.mjs). By AI agents, Wed Nov 11 2026. No macro, syntax, notation, axiom, sorry.
-/
import Derived.Test.YtgajpmcjjefghaaDoorRows
import GoSem.ClaimSeven
namespace Go.Proofs.YtgajpmcjjefghaaDoor
namespace Rows

/-- THE TIED CARD OF 'attestlaw04.DigitsParses'. -/
def digitsParsesCard : Claim7 := { stood := { row := digitsParsesRow, standIns := [], harness := (true, "2eee99e15bb0061bbd388b325a403d2546a0410b914ad4d272be6cdc39f11061"), looks := false }, kinds := [], alts := [], laidByText := true, laidKinds := [.data, .pinned], laidTests := true, laidLooks := .later }
def DigitsParsesCardSaid : Prop := Claim7.holds Tryd.pinned (.plain (OpenSpec.ofChange digitsParsesSpec)) digitsParsesCard

/-- THE TIED CARD OF 'attestlaw04.DigitsTens'. -/
def digitsTensCard : Claim7 := { stood := { row := digitsTensRow, standIns := [], harness := (true, "2eee99e15bb0061bbd388b325a403d2546a0410b914ad4d272be6cdc39f11061"), looks := false }, kinds := [], alts := [], laidByText := true, laidKinds := [.data, .pinned], laidTests := true, laidLooks := .later }
def DigitsTensCardSaid : Prop := Claim7.holds Tryd.pinned (.plain (OpenSpec.ofChange digitsTensSpec)) digitsTensCard

/-- THE TIED CARD OF 'attestlaw04.DigitsScale'. -/
def digitsScaleCard : Claim7 := { stood := { row := digitsScaleRow, standIns := [], harness := (true, "2eee99e15bb0061bbd388b325a403d2546a0410b914ad4d272be6cdc39f11061"), looks := false }, kinds := [], alts := [], laidByText := true, laidKinds := [.data, .pinned], laidTests := true, laidLooks := .later }
def DigitsScaleCardSaid : Prop := Claim7.holds Tryd.pinned (.plain (OpenSpec.ofChange digitsScaleSpec)) digitsScaleCard

/-- THE TIED CARD OF 'attestlaw04.DigitsTexts'. -/
def digitsTextsCard : Claim7 := { stood := { row := digitsTextsRow, standIns := [], harness := (true, "2eee99e15bb0061bbd388b325a403d2546a0410b914ad4d272be6cdc39f11061"), looks := false }, kinds := [], alts := [], laidByText := true, laidKinds := [.data, .pinned], laidTests := true, laidLooks := .later }
def DigitsTextsCardSaid : Prop := Claim7.holds Tryd.pinned (.plain (OpenSpec.ofChange digitsTextsSpec)) digitsTextsCard

/-- THE TIED CARD OF 'attestlaw04.DigitsBack'. -/
def digitsBackCard : Claim7 := { stood := { row := digitsBackRow, standIns := [], harness := (true, "2eee99e15bb0061bbd388b325a403d2546a0410b914ad4d272be6cdc39f11061"), looks := false }, kinds := [], alts := [], laidByText := true, laidKinds := [.data, .pinned], laidTests := true, laidLooks := .later }
def DigitsBackCardSaid : Prop := Claim7.holds Tryd.pinned (.plain (OpenSpec.ofChange digitsBackSpec)) digitsBackCard

/-- THE TIED CARD OF 'attestlaw06.RtextPrints'. -/
def rtextPrintsCard : Claim7 := { stood := { row := rtextPrintsRow, standIns := [], harness := (true, "2eee99e15bb0061bbd388b325a403d2546a0410b914ad4d272be6cdc39f11061"), looks := false }, kinds := [], alts := [], laidByText := true, laidKinds := [.data, .pinned], laidTests := true, laidLooks := .later }
def RtextPrintsCardSaid : Prop := Claim7.holds Tryd.pinned (.plain (OpenSpec.ofChange rtextPrintsSpec)) rtextPrintsCard

/-- THE TIED CARD OF 'attestlaw06.RtextParses'. -/
def rtextParsesCard : Claim7 := { stood := { row := rtextParsesRow, standIns := [], harness := (true, "2eee99e15bb0061bbd388b325a403d2546a0410b914ad4d272be6cdc39f11061"), looks := false }, kinds := [], alts := [], laidByText := true, laidKinds := [.data, .pinned], laidTests := true, laidLooks := .later }
def RtextParsesCardSaid : Prop := Claim7.holds Tryd.pinned (.plain (OpenSpec.ofChange rtextParsesSpec)) rtextParsesCard

/-- THE TIED CARD OF 'attestlaw06.RtextBack'. -/
def rtextBackCard : Claim7 := { stood := { row := rtextBackRow, standIns := [], harness := (true, "2eee99e15bb0061bbd388b325a403d2546a0410b914ad4d272be6cdc39f11061"), looks := false }, kinds := [], alts := [], laidByText := true, laidKinds := [.data, .pinned], laidTests := true, laidLooks := .later }
def RtextBackCardSaid : Prop := Claim7.holds Tryd.pinned (.plain (OpenSpec.ofChange rtextBackSpec)) rtextBackCard

/-- THE TIED CARD OF 'attestlaw06.RtextDecimals'. -/
def rtextDecimalsCard : Claim7 := { stood := { row := rtextDecimalsRow, standIns := [], harness := (true, "2eee99e15bb0061bbd388b325a403d2546a0410b914ad4d272be6cdc39f11061"), looks := false }, kinds := [], alts := [], laidByText := true, laidKinds := [.data, .pinned], laidTests := true, laidLooks := .later }
def RtextDecimalsCardSaid : Prop := Claim7.holds Tryd.pinned (.plain (OpenSpec.ofChange rtextDecimalsSpec)) rtextDecimalsCard

/-- THE SECOND FORM's CARD OF 'attestlaw04.DigitsParses'. -/
def digitsParsesUptoCard : Claim7 := { stood := { row := digitsParsesUptoRow, standIns := [], harness := (true, "2eee99e15bb0061bbd388b325a403d2546a0410b914ad4d272be6cdc39f11061"), looks := false }, kinds := [], alts := [], laidByText := true, laidKinds := [.data, .pinned], laidTests := true, laidLooks := .later }
def DigitsParsesUptoCardSaid : Prop := Claim7.holds Tryd.pinned (.plain (OpenSpec.upto digitsParsesSpec)) digitsParsesUptoCard

/-- THE SECOND FORM's CARD OF 'attestlaw04.DigitsTens'. -/
def digitsTensUptoCard : Claim7 := { stood := { row := digitsTensUptoRow, standIns := [], harness := (true, "2eee99e15bb0061bbd388b325a403d2546a0410b914ad4d272be6cdc39f11061"), looks := false }, kinds := [], alts := [], laidByText := true, laidKinds := [.data, .pinned], laidTests := true, laidLooks := .later }
def DigitsTensUptoCardSaid : Prop := Claim7.holds Tryd.pinned (.plain (OpenSpec.upto digitsTensSpec)) digitsTensUptoCard

/-- THE SECOND FORM's CARD OF 'attestlaw04.DigitsScale'. -/
def digitsScaleUptoCard : Claim7 := { stood := { row := digitsScaleUptoRow, standIns := [], harness := (true, "2eee99e15bb0061bbd388b325a403d2546a0410b914ad4d272be6cdc39f11061"), looks := false }, kinds := [], alts := [], laidByText := true, laidKinds := [.data, .pinned], laidTests := true, laidLooks := .later }
def DigitsScaleUptoCardSaid : Prop := Claim7.holds Tryd.pinned (.plain (OpenSpec.upto digitsScaleSpec)) digitsScaleUptoCard

/-- THE SECOND FORM's CARD OF 'attestlaw04.DigitsTexts'. -/
def digitsTextsUptoCard : Claim7 := { stood := { row := digitsTextsUptoRow, standIns := [], harness := (true, "2eee99e15bb0061bbd388b325a403d2546a0410b914ad4d272be6cdc39f11061"), looks := false }, kinds := [], alts := [], laidByText := true, laidKinds := [.data, .pinned], laidTests := true, laidLooks := .later }
def DigitsTextsUptoCardSaid : Prop := Claim7.holds Tryd.pinned (.plain (OpenSpec.upto digitsTextsSpec)) digitsTextsUptoCard

/-- THE SECOND FORM's CARD OF 'attestlaw04.DigitsBack'. -/
def digitsBackUptoCard : Claim7 := { stood := { row := digitsBackUptoRow, standIns := [], harness := (true, "2eee99e15bb0061bbd388b325a403d2546a0410b914ad4d272be6cdc39f11061"), looks := false }, kinds := [], alts := [], laidByText := true, laidKinds := [.data, .pinned], laidTests := true, laidLooks := .later }
def DigitsBackUptoCardSaid : Prop := Claim7.holds Tryd.pinned (.plain (OpenSpec.upto digitsBackSpec)) digitsBackUptoCard

/-- THE SECOND FORM's CARD OF 'attestlaw06.RtextPrints'. -/
def rtextPrintsUptoCard : Claim7 := { stood := { row := rtextPrintsUptoRow, standIns := [], harness := (true, "2eee99e15bb0061bbd388b325a403d2546a0410b914ad4d272be6cdc39f11061"), looks := false }, kinds := [], alts := [], laidByText := true, laidKinds := [.data, .pinned], laidTests := true, laidLooks := .later }
def RtextPrintsUptoCardSaid : Prop := Claim7.holds Tryd.pinned (.plain (OpenSpec.upto rtextPrintsSpec)) rtextPrintsUptoCard

/-- THE SECOND FORM's CARD OF 'attestlaw06.RtextParses'. -/
def rtextParsesUptoCard : Claim7 := { stood := { row := rtextParsesUptoRow, standIns := [], harness := (true, "2eee99e15bb0061bbd388b325a403d2546a0410b914ad4d272be6cdc39f11061"), looks := false }, kinds := [], alts := [], laidByText := true, laidKinds := [.data, .pinned], laidTests := true, laidLooks := .later }
def RtextParsesUptoCardSaid : Prop := Claim7.holds Tryd.pinned (.plain (OpenSpec.upto rtextParsesSpec)) rtextParsesUptoCard

/-- THE SECOND FORM's CARD OF 'attestlaw06.RtextBack'. -/
def rtextBackUptoCard : Claim7 := { stood := { row := rtextBackUptoRow, standIns := [], harness := (true, "2eee99e15bb0061bbd388b325a403d2546a0410b914ad4d272be6cdc39f11061"), looks := false }, kinds := [], alts := [], laidByText := true, laidKinds := [.data, .pinned], laidTests := true, laidLooks := .later }
def RtextBackUptoCardSaid : Prop := Claim7.holds Tryd.pinned (.plain (OpenSpec.upto rtextBackSpec)) rtextBackUptoCard

/-- THE SECOND FORM's CARD OF 'attestlaw06.RtextDecimals'. -/
def rtextDecimalsUptoCard : Claim7 := { stood := { row := rtextDecimalsUptoRow, standIns := [], harness := (true, "2eee99e15bb0061bbd388b325a403d2546a0410b914ad4d272be6cdc39f11061"), looks := false }, kinds := [], alts := [], laidByText := true, laidKinds := [.data, .pinned], laidTests := true, laidLooks := .later }
def RtextDecimalsUptoCardSaid : Prop := Claim7.holds Tryd.pinned (.plain (OpenSpec.upto rtextDecimalsSpec)) rtextDecimalsUptoCard
end Rows
end Go.Proofs.YtgajpmcjjefghaaDoor
