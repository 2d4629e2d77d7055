/-
  NARROWER THAN 'FOR EVERY INPUT', by the rows' own cells (each row's printed sentence says how): DigitsParses: laid · DigitsTens: laid · DigitsScale: laid · DigitsTexts: laid · DigitsBack: laid · RtextPrints: laid · RtextParses: laid · RtextBack: laid · RtextDecimals: laid.
  DERIVED. THE GIVEN ROWS OF THIS SEAT. 9 by the template 'for every input the law returns true; each argument reads behind the call as it read before'; 0 by the template 'total and deterministic' (their statements: YtgajpmcjjefghaaDoorTotals.lean).
  GIVEN WITH THE SEED: the statements are not yours to turn. If you find one false, say at which input.
  Laid BY PROGRAM, IN A SANDBOX (cutbox-rows.mjs): the forced cells as the released guide's own fill.sh prints them over the translation 11a45faded69494a… (all of the seat's roots in one cut). By AI agents, Wed Nov 11 2026. No macro, syntax, notation, axiom, sorry.
-/
import Derived.Test.YtgajpmcjjefghaaDoorChecked
import GoSem.PinnedTables
import GoSem.Claim
import GoSem.ClaimJoined
import GoSem.ClaimMapViews
import Derived.JoinedTies
import Derived.KernelRfl
namespace Go.Proofs.YtgajpmcjjefghaaDoor
/- THE CELL 'sum', in the pinned program and in every row, IS THE sha256 OF THE DUMP (.gsa) THAT YtgajpmcjjefghaaDoorProg.lean LOADS. Nothing in Lean hashes anything: it is a label: what it is worth is what the hold of that sum in a sandbox is worth. -/
noncomputable def Tryd.pinned : Pinned := { name := "ytgajpmcjjefghaadoor", sum := "11a45faded69494a9b7f9c0e2b7b59bca39967fbfd55ba1ea286e36f25d23919", checked := Tryd.checked }
namespace Rows
def none {H : Type} : Left H := { results := [], args := [] }

/- WHAT THE LISTED PACKAGE-LEVEL VARIABLES READ AS WHEN THE CALL BEGINS. Each datum BY PROGRAM (the guide's laid-datum.mjs) off the statement by which the dump's own 'gosem.cut.vars' lays the variable. In a bare row this is a premise. The card (YtgajpmcjjefghaaDoorCards.lean) ties it to the program's text. -/
def laid_unicode_utf8_acceptRanges {H : Type} : DataW H := .agg [.agg [.lit (.int .u8 128), .lit (.int .u8 191)], .agg [.lit (.int .u8 160), .lit (.int .u8 191)], .agg [.lit (.int .u8 128), .lit (.int .u8 159)], .agg [.lit (.int .u8 144), .lit (.int .u8 191)], .agg [.lit (.int .u8 128), .lit (.int .u8 143)], .agg [.lit (.int .u8 0), .lit (.int .u8 0)], .agg [.lit (.int .u8 0), .lit (.int .u8 0)], .agg [.lit (.int .u8 0), .lit (.int .u8 0)], .agg [.lit (.int .u8 0), .lit (.int .u8 0)], .agg [.lit (.int .u8 0), .lit (.int .u8 0)], .agg [.lit (.int .u8 0), .lit (.int .u8 0)], .agg [.lit (.int .u8 0), .lit (.int .u8 0)], .agg [.lit (.int .u8 0), .lit (.int .u8 0)], .agg [.lit (.int .u8 0), .lit (.int .u8 0)], .agg [.lit (.int .u8 0), .lit (.int .u8 0)], .agg [.lit (.int .u8 0), .lit (.int .u8 0)]]
/-- One of Go's own tables, pinned by name: the form's constant. -/
def laid_unicode_utf8_first : DataW Unit := Go.Pinned.utf8First

/-- 'attestlaw04.DigitsParses': WHATEVER THE INPUT: true; the input reads as it did. -/
def digitsParsesSpec : ChangeSpec := { name := "digitsParses", fn := fun _ => fun
  | [d] => { results := [.lit (.bool true)], args := [d] }
  | _ => none }
def digitsParsesRow : OpenClaim := { program := "ytgajpmcjjefghaadoor", sum := "11a45faded69494a9b7f9c0e2b7b59bca39967fbfd55ba1ea286e36f25d23919", func := "attest/attestlaw04.DigitsParses", spec := "digitsParses", inPlace := ["internal/bytealg.IndexByteString", "internal/bytealg.IndexString"], named := ["unicode/utf8.first", "unicode/utf8.acceptRanges", "internal/bytealg.MaxLen"], apart := false, laid := [("unicode/utf8.acceptRanges", laid_unicode_utf8_acceptRanges), ("unicode/utf8.first", laid_unicode_utf8_first)] }
def DigitsParsesSaid : Prop := digitsParsesRow.holds Tryd.pinned (OpenSpec.ofChange digitsParsesSpec)

/-- ITS FALSE NEIGHBOUR: 'it returns false'. Refute it at one input. -/
def digitsParsesWrong : ChangeSpec := { name := "digitsParses", fn := fun _ => fun
  | [d] => { results := [.lit (.bool false)], args := [d] }
  | _ => none }
def DigitsParsesWrongFalsely : Prop := digitsParsesRow.holds Tryd.pinned (OpenSpec.ofChange digitsParsesWrong)

/-- 'attestlaw04.DigitsTens': WHATEVER THE INPUT: true; the input reads as it did. -/
def digitsTensSpec : ChangeSpec := { name := "digitsTens", fn := fun _ => fun
  | [d] => { results := [.lit (.bool true)], args := [d] }
  | _ => none }
def digitsTensRow : OpenClaim := { program := "ytgajpmcjjefghaadoor", sum := "11a45faded69494a9b7f9c0e2b7b59bca39967fbfd55ba1ea286e36f25d23919", func := "attest/attestlaw04.DigitsTens", spec := "digitsTens", inPlace := ["internal/bytealg.IndexByteString", "internal/bytealg.IndexString"], named := ["unicode/utf8.first", "unicode/utf8.acceptRanges", "internal/bytealg.MaxLen"], apart := false, laid := [("unicode/utf8.acceptRanges", laid_unicode_utf8_acceptRanges), ("unicode/utf8.first", laid_unicode_utf8_first)] }
def DigitsTensSaid : Prop := digitsTensRow.holds Tryd.pinned (OpenSpec.ofChange digitsTensSpec)

/-- ITS FALSE NEIGHBOUR: 'it returns false'. Refute it at one input. -/
def digitsTensWrong : ChangeSpec := { name := "digitsTens", fn := fun _ => fun
  | [d] => { results := [.lit (.bool false)], args := [d] }
  | _ => none }
def DigitsTensWrongFalsely : Prop := digitsTensRow.holds Tryd.pinned (OpenSpec.ofChange digitsTensWrong)

/-- 'attestlaw04.DigitsScale': WHATEVER THE INPUT: true; the input reads as it did. -/
def digitsScaleSpec : ChangeSpec := { name := "digitsScale", fn := fun _ => fun
  | [d1, d2] => { results := [.lit (.bool true)], args := [d1, d2] }
  | _ => none }
def digitsScaleRow : OpenClaim := { program := "ytgajpmcjjefghaadoor", sum := "11a45faded69494a9b7f9c0e2b7b59bca39967fbfd55ba1ea286e36f25d23919", func := "attest/attestlaw04.DigitsScale", spec := "digitsScale", inPlace := ["internal/bytealg.IndexByteString", "internal/bytealg.IndexString"], named := ["unicode/utf8.first", "unicode/utf8.acceptRanges", "internal/bytealg.MaxLen"], apart := false, laid := [("unicode/utf8.acceptRanges", laid_unicode_utf8_acceptRanges), ("unicode/utf8.first", laid_unicode_utf8_first)] }
def DigitsScaleSaid : Prop := digitsScaleRow.holds Tryd.pinned (OpenSpec.ofChange digitsScaleSpec)

/-- ITS FALSE NEIGHBOUR: 'it returns false'. Refute it at one input. -/
def digitsScaleWrong : ChangeSpec := { name := "digitsScale", fn := fun _ => fun
  | [d1, d2] => { results := [.lit (.bool false)], args := [d1, d2] }
  | _ => none }
def DigitsScaleWrongFalsely : Prop := digitsScaleRow.holds Tryd.pinned (OpenSpec.ofChange digitsScaleWrong)

/-- 'attestlaw04.DigitsTexts': WHATEVER THE INPUT: true; the input reads as it did. -/
def digitsTextsSpec : ChangeSpec := { name := "digitsTexts", fn := fun _ => fun
  | [d1, d2] => { results := [.lit (.bool true)], args := [d1, d2] }
  | _ => none }
def digitsTextsRow : OpenClaim := { program := "ytgajpmcjjefghaadoor", sum := "11a45faded69494a9b7f9c0e2b7b59bca39967fbfd55ba1ea286e36f25d23919", func := "attest/attestlaw04.DigitsTexts", spec := "digitsTexts", inPlace := ["internal/bytealg.IndexByteString", "internal/bytealg.IndexString", "internal/abi.NoEscape", "internal/bytealg.MakeNoZero"], named := ["unicode/utf8.first", "unicode/utf8.acceptRanges", "internal/bytealg.MaxLen"], apart := false, laid := [("unicode/utf8.acceptRanges", laid_unicode_utf8_acceptRanges), ("unicode/utf8.first", laid_unicode_utf8_first)] }
def DigitsTextsSaid : Prop := digitsTextsRow.holds Tryd.pinned (OpenSpec.ofChange digitsTextsSpec)

/-- ITS FALSE NEIGHBOUR: 'it returns false'. Refute it at one input. -/
def digitsTextsWrong : ChangeSpec := { name := "digitsTexts", fn := fun _ => fun
  | [d1, d2] => { results := [.lit (.bool false)], args := [d1, d2] }
  | _ => none }
def DigitsTextsWrongFalsely : Prop := digitsTextsRow.holds Tryd.pinned (OpenSpec.ofChange digitsTextsWrong)

/-- 'attestlaw04.DigitsBack': WHATEVER THE INPUT: true; the input reads as it did. -/
def digitsBackSpec : ChangeSpec := { name := "digitsBack", fn := fun _ => fun
  | [d1, d2] => { results := [.lit (.bool true)], args := [d1, d2] }
  | _ => none }
def digitsBackRow : OpenClaim := { program := "ytgajpmcjjefghaadoor", sum := "11a45faded69494a9b7f9c0e2b7b59bca39967fbfd55ba1ea286e36f25d23919", func := "attest/attestlaw04.DigitsBack", spec := "digitsBack", inPlace := ["internal/bytealg.IndexByteString", "internal/bytealg.IndexString", "internal/abi.NoEscape", "internal/bytealg.MakeNoZero"], named := ["unicode/utf8.first", "unicode/utf8.acceptRanges", "internal/bytealg.MaxLen"], apart := false, laid := [("unicode/utf8.acceptRanges", laid_unicode_utf8_acceptRanges), ("unicode/utf8.first", laid_unicode_utf8_first)] }
def DigitsBackSaid : Prop := digitsBackRow.holds Tryd.pinned (OpenSpec.ofChange digitsBackSpec)

/-- ITS FALSE NEIGHBOUR: 'it returns false'. Refute it at one input. -/
def digitsBackWrong : ChangeSpec := { name := "digitsBack", fn := fun _ => fun
  | [d1, d2] => { results := [.lit (.bool false)], args := [d1, d2] }
  | _ => none }
def DigitsBackWrongFalsely : Prop := digitsBackRow.holds Tryd.pinned (OpenSpec.ofChange digitsBackWrong)

/-- 'attestlaw06.RtextPrints': WHATEVER THE INPUT: true; the input reads as it did. -/
def rtextPrintsSpec : ChangeSpec := { name := "rtextPrints", fn := fun _ => fun
  | [d] => { results := [.lit (.bool true)], args := [d] }
  | _ => none }
def rtextPrintsRow : OpenClaim := { program := "ytgajpmcjjefghaadoor", sum := "11a45faded69494a9b7f9c0e2b7b59bca39967fbfd55ba1ea286e36f25d23919", func := "attest/attestlaw06.RtextPrints", spec := "rtextPrints", inPlace := ["internal/bytealg.IndexByteString", "internal/bytealg.IndexString"], named := ["internal/bytealg.MaxLen", "unicode/utf8.first", "unicode/utf8.acceptRanges"], apart := false, laid := [("unicode/utf8.acceptRanges", laid_unicode_utf8_acceptRanges), ("unicode/utf8.first", laid_unicode_utf8_first)] }
def RtextPrintsSaid : Prop := rtextPrintsRow.holds Tryd.pinned (OpenSpec.ofChange rtextPrintsSpec)

/-- ITS FALSE NEIGHBOUR: 'it returns false'. Refute it at one input. -/
def rtextPrintsWrong : ChangeSpec := { name := "rtextPrints", fn := fun _ => fun
  | [d] => { results := [.lit (.bool false)], args := [d] }
  | _ => none }
def RtextPrintsWrongFalsely : Prop := rtextPrintsRow.holds Tryd.pinned (OpenSpec.ofChange rtextPrintsWrong)

/-- 'attestlaw06.RtextParses': WHATEVER THE INPUT: true; the input reads as it did. -/
def rtextParsesSpec : ChangeSpec := { name := "rtextParses", fn := fun _ => fun
  | [d] => { results := [.lit (.bool true)], args := [d] }
  | _ => none }
def rtextParsesRow : OpenClaim := { program := "ytgajpmcjjefghaadoor", sum := "11a45faded69494a9b7f9c0e2b7b59bca39967fbfd55ba1ea286e36f25d23919", func := "attest/attestlaw06.RtextParses", spec := "rtextParses", inPlace := ["internal/bytealg.IndexByteString", "internal/bytealg.IndexString"], named := ["internal/bytealg.MaxLen", "unicode/utf8.first", "unicode/utf8.acceptRanges"], apart := false, laid := [("unicode/utf8.acceptRanges", laid_unicode_utf8_acceptRanges), ("unicode/utf8.first", laid_unicode_utf8_first)] }
def RtextParsesSaid : Prop := rtextParsesRow.holds Tryd.pinned (OpenSpec.ofChange rtextParsesSpec)

/-- ITS FALSE NEIGHBOUR: 'it returns false'. Refute it at one input. -/
def rtextParsesWrong : ChangeSpec := { name := "rtextParses", fn := fun _ => fun
  | [d] => { results := [.lit (.bool false)], args := [d] }
  | _ => none }
def RtextParsesWrongFalsely : Prop := rtextParsesRow.holds Tryd.pinned (OpenSpec.ofChange rtextParsesWrong)

/-- 'attestlaw06.RtextBack': WHATEVER THE INPUT: true; the input reads as it did. -/
def rtextBackSpec : ChangeSpec := { name := "rtextBack", fn := fun _ => fun
  | [d1, d2] => { results := [.lit (.bool true)], args := [d1, d2] }
  | _ => none }
def rtextBackRow : OpenClaim := { program := "ytgajpmcjjefghaadoor", sum := "11a45faded69494a9b7f9c0e2b7b59bca39967fbfd55ba1ea286e36f25d23919", func := "attest/attestlaw06.RtextBack", spec := "rtextBack", inPlace := ["internal/bytealg.IndexByteString", "internal/bytealg.IndexString"], named := ["unicode/utf8.first", "unicode/utf8.acceptRanges", "internal/bytealg.MaxLen"], apart := false, laid := [("unicode/utf8.acceptRanges", laid_unicode_utf8_acceptRanges), ("unicode/utf8.first", laid_unicode_utf8_first)] }
def RtextBackSaid : Prop := rtextBackRow.holds Tryd.pinned (OpenSpec.ofChange rtextBackSpec)

/-- ITS FALSE NEIGHBOUR: 'it returns false'. Refute it at one input. -/
def rtextBackWrong : ChangeSpec := { name := "rtextBack", fn := fun _ => fun
  | [d1, d2] => { results := [.lit (.bool false)], args := [d1, d2] }
  | _ => none }
def RtextBackWrongFalsely : Prop := rtextBackRow.holds Tryd.pinned (OpenSpec.ofChange rtextBackWrong)

/-- 'attestlaw06.RtextDecimals': WHATEVER THE INPUT: true; the input reads as it did. -/
def rtextDecimalsSpec : ChangeSpec := { name := "rtextDecimals", fn := fun _ => fun
  | [d1, d2] => { results := [.lit (.bool true)], args := [d1, d2] }
  | _ => none }
def rtextDecimalsRow : OpenClaim := { program := "ytgajpmcjjefghaadoor", sum := "11a45faded69494a9b7f9c0e2b7b59bca39967fbfd55ba1ea286e36f25d23919", func := "attest/attestlaw06.RtextDecimals", spec := "rtextDecimals", inPlace := ["internal/bytealg.IndexByteString", "internal/bytealg.IndexString", "internal/abi.NoEscape", "internal/bytealg.MakeNoZero"], named := ["unicode/utf8.first", "unicode/utf8.acceptRanges", "internal/bytealg.MaxLen"], apart := false, laid := [("unicode/utf8.acceptRanges", laid_unicode_utf8_acceptRanges), ("unicode/utf8.first", laid_unicode_utf8_first)] }
def RtextDecimalsSaid : Prop := rtextDecimalsRow.holds Tryd.pinned (OpenSpec.ofChange rtextDecimalsSpec)

/-- ITS FALSE NEIGHBOUR: 'it returns false'. Refute it at one input. -/
def rtextDecimalsWrong : ChangeSpec := { name := "rtextDecimals", fn := fun _ => fun
  | [d1, d2] => { results := [.lit (.bool false)], args := [d1, d2] }
  | _ => none }
def RtextDecimalsWrongFalsely : Prop := rtextDecimalsRow.holds Tryd.pinned (OpenSpec.ofChange rtextDecimalsWrong)

/- THE SECOND FORM. 'bulk': how many values and letters a reading holds, each counted each time it is reached (what is shared counts as often as it is met; a slice's spare places count too). A statement '..UptoSaid' is the law's where the arguments, and the package variables that the reading takes, are together of bulk at most 1048576: NARROWER than '..Said'. Prove '..Said' where nothing that the law and all that it calls make is longer than what came in: it says more and counts as full. Else prove '..UptoSaid'. A law counts once. -/
mutual
def uptoBulk {H : Type} : DataW H → Nat
  | .lit (.string bytes) => bytes.length + 1
  | .lit _ => 1
  | .nil => 1
  | .ptr d => uptoBulk d + 1
  | .slice elems spare => uptoBulkAll elems + uptoBulkAll spare + 1
  | .agg parts => uptoBulkAll parts + 1
  | .iface _ d => uptoBulk d + 1
  | .map entries => uptoBulkEntries entries + 1
  | .held _ => 1
def uptoBulkAll {H : Type} : List (DataW H) → Nat
  | [] => 0
  | d :: r => uptoBulk d + uptoBulkAll r
def uptoBulkEntries {H : Type} : List (Lit × DataW H) → Nat
  | [] => 0
  | x :: r => uptoBulkEntry x + uptoBulkEntries r
def uptoBulkEntry {H : Type} : Lit × DataW H → Nat
  | (.string bytes, d) => bytes.length + uptoBulk d + 1
  | (_, d) => uptoBulk d + 1
 end
def uptoSmall : (H : Type) → List (DataW H) → Bool := fun _ ds => decide (uptoBulkAll ds ≤ 1048576)
def OpenSpec.upto (s : _root_.Go.ChangeSpec) : _root_.Go.OpenSpec := { _root_.Go.OpenSpec.ofChange s with cond := some uptoSmall }

/-- 'attestlaw04.DigitsParses', WHERE WHAT IT READS IS OF BULK AT MOST 1048576: true; the input reads as it did. -/
def digitsParsesUptoRow : OpenClaim := { program := "ytgajpmcjjefghaadoor", sum := "11a45faded69494a9b7f9c0e2b7b59bca39967fbfd55ba1ea286e36f25d23919", func := "attest/attestlaw04.DigitsParses", spec := "digitsParses", inPlace := ["internal/bytealg.IndexByteString", "internal/bytealg.IndexString"], named := ["unicode/utf8.first", "unicode/utf8.acceptRanges", "internal/bytealg.MaxLen"], apart := false, laid := [("unicode/utf8.acceptRanges", laid_unicode_utf8_acceptRanges), ("unicode/utf8.first", laid_unicode_utf8_first)], narrowed := true }
def DigitsParsesUptoSaid : Prop := digitsParsesUptoRow.holds Tryd.pinned (OpenSpec.upto digitsParsesSpec)

/-- 'attestlaw04.DigitsTens', WHERE WHAT IT READS IS OF BULK AT MOST 1048576: true; the input reads as it did. -/
def digitsTensUptoRow : OpenClaim := { program := "ytgajpmcjjefghaadoor", sum := "11a45faded69494a9b7f9c0e2b7b59bca39967fbfd55ba1ea286e36f25d23919", func := "attest/attestlaw04.DigitsTens", spec := "digitsTens", inPlace := ["internal/bytealg.IndexByteString", "internal/bytealg.IndexString"], named := ["unicode/utf8.first", "unicode/utf8.acceptRanges", "internal/bytealg.MaxLen"], apart := false, laid := [("unicode/utf8.acceptRanges", laid_unicode_utf8_acceptRanges), ("unicode/utf8.first", laid_unicode_utf8_first)], narrowed := true }
def DigitsTensUptoSaid : Prop := digitsTensUptoRow.holds Tryd.pinned (OpenSpec.upto digitsTensSpec)

/-- 'attestlaw04.DigitsScale', WHERE WHAT IT READS IS OF BULK AT MOST 1048576: true; the input reads as it did. -/
def digitsScaleUptoRow : OpenClaim := { program := "ytgajpmcjjefghaadoor", sum := "11a45faded69494a9b7f9c0e2b7b59bca39967fbfd55ba1ea286e36f25d23919", func := "attest/attestlaw04.DigitsScale", spec := "digitsScale", inPlace := ["internal/bytealg.IndexByteString", "internal/bytealg.IndexString"], named := ["unicode/utf8.first", "unicode/utf8.acceptRanges", "internal/bytealg.MaxLen"], apart := false, laid := [("unicode/utf8.acceptRanges", laid_unicode_utf8_acceptRanges), ("unicode/utf8.first", laid_unicode_utf8_first)], narrowed := true }
def DigitsScaleUptoSaid : Prop := digitsScaleUptoRow.holds Tryd.pinned (OpenSpec.upto digitsScaleSpec)

/-- 'attestlaw04.DigitsTexts', WHERE WHAT IT READS IS OF BULK AT MOST 1048576: true; the input reads as it did. -/
def digitsTextsUptoRow : OpenClaim := { program := "ytgajpmcjjefghaadoor", sum := "11a45faded69494a9b7f9c0e2b7b59bca39967fbfd55ba1ea286e36f25d23919", func := "attest/attestlaw04.DigitsTexts", spec := "digitsTexts", inPlace := ["internal/bytealg.IndexByteString", "internal/bytealg.IndexString", "internal/abi.NoEscape", "internal/bytealg.MakeNoZero"], named := ["unicode/utf8.first", "unicode/utf8.acceptRanges", "internal/bytealg.MaxLen"], apart := false, laid := [("unicode/utf8.acceptRanges", laid_unicode_utf8_acceptRanges), ("unicode/utf8.first", laid_unicode_utf8_first)], narrowed := true }
def DigitsTextsUptoSaid : Prop := digitsTextsUptoRow.holds Tryd.pinned (OpenSpec.upto digitsTextsSpec)

/-- 'attestlaw04.DigitsBack', WHERE WHAT IT READS IS OF BULK AT MOST 1048576: true; the input reads as it did. -/
def digitsBackUptoRow : OpenClaim := { program := "ytgajpmcjjefghaadoor", sum := "11a45faded69494a9b7f9c0e2b7b59bca39967fbfd55ba1ea286e36f25d23919", func := "attest/attestlaw04.DigitsBack", spec := "digitsBack", inPlace := ["internal/bytealg.IndexByteString", "internal/bytealg.IndexString", "internal/abi.NoEscape", "internal/bytealg.MakeNoZero"], named := ["unicode/utf8.first", "unicode/utf8.acceptRanges", "internal/bytealg.MaxLen"], apart := false, laid := [("unicode/utf8.acceptRanges", laid_unicode_utf8_acceptRanges), ("unicode/utf8.first", laid_unicode_utf8_first)], narrowed := true }
def DigitsBackUptoSaid : Prop := digitsBackUptoRow.holds Tryd.pinned (OpenSpec.upto digitsBackSpec)

/-- 'attestlaw06.RtextPrints', WHERE WHAT IT READS IS OF BULK AT MOST 1048576: true; the input reads as it did. -/
def rtextPrintsUptoRow : OpenClaim := { program := "ytgajpmcjjefghaadoor", sum := "11a45faded69494a9b7f9c0e2b7b59bca39967fbfd55ba1ea286e36f25d23919", func := "attest/attestlaw06.RtextPrints", spec := "rtextPrints", inPlace := ["internal/bytealg.IndexByteString", "internal/bytealg.IndexString"], named := ["internal/bytealg.MaxLen", "unicode/utf8.first", "unicode/utf8.acceptRanges"], apart := false, laid := [("unicode/utf8.acceptRanges", laid_unicode_utf8_acceptRanges), ("unicode/utf8.first", laid_unicode_utf8_first)], narrowed := true }
def RtextPrintsUptoSaid : Prop := rtextPrintsUptoRow.holds Tryd.pinned (OpenSpec.upto rtextPrintsSpec)

/-- 'attestlaw06.RtextParses', WHERE WHAT IT READS IS OF BULK AT MOST 1048576: true; the input reads as it did. -/
def rtextParsesUptoRow : OpenClaim := { program := "ytgajpmcjjefghaadoor", sum := "11a45faded69494a9b7f9c0e2b7b59bca39967fbfd55ba1ea286e36f25d23919", func := "attest/attestlaw06.RtextParses", spec := "rtextParses", inPlace := ["internal/bytealg.IndexByteString", "internal/bytealg.IndexString"], named := ["internal/bytealg.MaxLen", "unicode/utf8.first", "unicode/utf8.acceptRanges"], apart := false, laid := [("unicode/utf8.acceptRanges", laid_unicode_utf8_acceptRanges), ("unicode/utf8.first", laid_unicode_utf8_first)], narrowed := true }
def RtextParsesUptoSaid : Prop := rtextParsesUptoRow.holds Tryd.pinned (OpenSpec.upto rtextParsesSpec)

/-- 'attestlaw06.RtextBack', WHERE WHAT IT READS IS OF BULK AT MOST 1048576: true; the input reads as it did. -/
def rtextBackUptoRow : OpenClaim := { program := "ytgajpmcjjefghaadoor", sum := "11a45faded69494a9b7f9c0e2b7b59bca39967fbfd55ba1ea286e36f25d23919", func := "attest/attestlaw06.RtextBack", spec := "rtextBack", inPlace := ["internal/bytealg.IndexByteString", "internal/bytealg.IndexString"], named := ["unicode/utf8.first", "unicode/utf8.acceptRanges", "internal/bytealg.MaxLen"], apart := false, laid := [("unicode/utf8.acceptRanges", laid_unicode_utf8_acceptRanges), ("unicode/utf8.first", laid_unicode_utf8_first)], narrowed := true }
def RtextBackUptoSaid : Prop := rtextBackUptoRow.holds Tryd.pinned (OpenSpec.upto rtextBackSpec)

/-- 'attestlaw06.RtextDecimals', WHERE WHAT IT READS IS OF BULK AT MOST 1048576: true; the input reads as it did. -/
def rtextDecimalsUptoRow : OpenClaim := { program := "ytgajpmcjjefghaadoor", sum := "11a45faded69494a9b7f9c0e2b7b59bca39967fbfd55ba1ea286e36f25d23919", func := "attest/attestlaw06.RtextDecimals", spec := "rtextDecimals", inPlace := ["internal/bytealg.IndexByteString", "internal/bytealg.IndexString", "internal/abi.NoEscape", "internal/bytealg.MakeNoZero"], named := ["unicode/utf8.first", "unicode/utf8.acceptRanges", "internal/bytealg.MaxLen"], apart := false, laid := [("unicode/utf8.acceptRanges", laid_unicode_utf8_acceptRanges), ("unicode/utf8.first", laid_unicode_utf8_first)], narrowed := true }
def RtextDecimalsUptoSaid : Prop := rtextDecimalsUptoRow.holds Tryd.pinned (OpenSpec.upto rtextDecimalsSpec)

end Rows
end Go.Proofs.YtgajpmcjjefghaaDoor
