/-
  No cell of these rows narrows 'for every input' (looked for: loops, veiled, ifaces, maps, wideKeys, modest, calm, conditions, laid).
  DERIVED. THE GIVEN ROWS OF THIS SEAT. 12 by the template 'for every input the law returns true; each argument reads behind the call as it read before'; 0 by the template 'total and deterministic' (their statements: YtnbbhpihlcglgaaTotals.lean).
  GIVEN WITH THE SEED: the statements are not yours to turn. If you find one false, say at which input.
  Laid BY PROGRAM, IN A SANDBOX (cutbox-rows.mjs): the forced cells as the released guide's own fill.sh prints them over the translation df7e55e5956bfa8f… (all of the seat's roots in one cut). By AI agents, Wed Nov 11 2026. No macro, syntax, notation, axiom, sorry.
-/
import Derived.Test.YtnbbhpihlcglgaaChecked
import GoSem.Claim
import GoSem.ClaimJoined
import GoSem.ClaimMapViews
import Derived.JoinedTies
import Derived.KernelRfl
namespace Go.Proofs.Ytnbbhpihlcglgaa
/- THE CELL 'sum', in the pinned program and in every row, IS THE sha256 OF THE DUMP (.gsa) THAT YtnbbhpihlcglgaaProg.lean LOADS. Nothing in Lean hashes anything: it is a label: what it is worth is what the hold of that sum in a sandbox is worth. -/
noncomputable def Try.pinned : Pinned := { name := "ytnbbhpihlcglgaa", sum := "df7e55e5956bfa8f405bf0308c38b5e2331272fa6aa62b23487c25f8d9adaf83", checked := Try.checked }
namespace Rows
def none {H : Type} : Left H := { results := [], args := [] }

/-- 'attestlaw17.SpanWeighs': WHATEVER THE INPUT: true; the input reads as it did. -/
def spanWeighsSpec : ChangeSpec := { name := "spanWeighs", fn := fun _ => fun
  | [d1, d2, d3, d4] => { results := [.lit (.bool true)], args := [d1, d2, d3, d4] }
  | _ => none }
def spanWeighsRow : OpenClaim := { program := "ytnbbhpihlcglgaa", sum := "df7e55e5956bfa8f405bf0308c38b5e2331272fa6aa62b23487c25f8d9adaf83", func := "attest/attestlaw17.SpanWeighs", spec := "spanWeighs", apart := false }
def SpanWeighsSaid : Prop := spanWeighsRow.holds Try.pinned (OpenSpec.ofChange spanWeighsSpec)

/-- ITS FALSE NEIGHBOUR: 'it returns false'. Refute it at one input. -/
def spanWeighsWrong : ChangeSpec := { name := "spanWeighs", fn := fun _ => fun
  | [d1, d2, d3, d4] => { results := [.lit (.bool false)], args := [d1, d2, d3, d4] }
  | _ => none }
def SpanWeighsWrongFalsely : Prop := spanWeighsRow.holds Try.pinned (OpenSpec.ofChange spanWeighsWrong)

/-- 'attestlaw08.LinSames': WHATEVER THE INPUT: true; the input reads as it did. -/
def linSamesSpec : ChangeSpec := { name := "linSames", fn := fun _ => fun
  | [d1, d2] => { results := [.lit (.bool true)], args := [d1, d2] }
  | _ => none }
def linSamesRow : OpenClaim := { program := "ytnbbhpihlcglgaa", sum := "df7e55e5956bfa8f405bf0308c38b5e2331272fa6aa62b23487c25f8d9adaf83", func := "attest/attestlaw08.LinSames", spec := "linSames", unfollowed := true, recurses := true, apart := false }
def LinSamesSaid : Prop := linSamesRow.holds Try.pinned (OpenSpec.ofChange linSamesSpec)

/-- ITS FALSE NEIGHBOUR: 'it returns false'. Refute it at one input. -/
def linSamesWrong : ChangeSpec := { name := "linSames", fn := fun _ => fun
  | [d1, d2] => { results := [.lit (.bool false)], args := [d1, d2] }
  | _ => none }
def LinSamesWrongFalsely : Prop := linSamesRow.holds Try.pinned (OpenSpec.ofChange linSamesWrong)

/-- 'attestlaw08.LinSums': WHATEVER THE INPUT: true; the input reads as it did. -/
def linSumsSpec : ChangeSpec := { name := "linSums", fn := fun _ => fun
  | [d1, d2, d3] => { results := [.lit (.bool true)], args := [d1, d2, d3] }
  | _ => none }
def linSumsRow : OpenClaim := { program := "ytnbbhpihlcglgaa", sum := "df7e55e5956bfa8f405bf0308c38b5e2331272fa6aa62b23487c25f8d9adaf83", func := "attest/attestlaw08.LinSums", spec := "linSums", unfollowed := true, recurses := true, apart := false }
def LinSumsSaid : Prop := linSumsRow.holds Try.pinned (OpenSpec.ofChange linSumsSpec)

/-- ITS FALSE NEIGHBOUR: 'it returns false'. Refute it at one input. -/
def linSumsWrong : ChangeSpec := { name := "linSums", fn := fun _ => fun
  | [d1, d2, d3] => { results := [.lit (.bool false)], args := [d1, d2, d3] }
  | _ => none }
def LinSumsWrongFalsely : Prop := linSumsRow.holds Try.pinned (OpenSpec.ofChange linSumsWrong)

/-- 'attestlaw08.LinLends': WHATEVER THE INPUT: true; the input reads as it did. -/
def linLendsSpec : ChangeSpec := { name := "linLends", fn := fun _ => fun
  | [d1, d2] => { results := [.lit (.bool true)], args := [d1, d2] }
  | _ => none }
def linLendsRow : OpenClaim := { program := "ytnbbhpihlcglgaa", sum := "df7e55e5956bfa8f405bf0308c38b5e2331272fa6aa62b23487c25f8d9adaf83", func := "attest/attestlaw08.LinLends", spec := "linLends", unfollowed := true, recurses := true, apart := false }
def LinLendsSaid : Prop := linLendsRow.holds Try.pinned (OpenSpec.ofChange linLendsSpec)

/-- ITS FALSE NEIGHBOUR: 'it returns false'. Refute it at one input. -/
def linLendsWrong : ChangeSpec := { name := "linLends", fn := fun _ => fun
  | [d1, d2] => { results := [.lit (.bool false)], args := [d1, d2] }
  | _ => none }
def LinLendsWrongFalsely : Prop := linLendsRow.holds Try.pinned (OpenSpec.ofChange linLendsWrong)

/-- 'attestlaw08.LinForms': WHATEVER THE INPUT: true; the input reads as it did. -/
def linFormsSpec : ChangeSpec := { name := "linForms", fn := fun _ => fun
  | [d1, d2, d3] => { results := [.lit (.bool true)], args := [d1, d2, d3] }
  | _ => none }
def linFormsRow : OpenClaim := { program := "ytnbbhpihlcglgaa", sum := "df7e55e5956bfa8f405bf0308c38b5e2331272fa6aa62b23487c25f8d9adaf83", func := "attest/attestlaw08.LinForms", spec := "linForms", unfollowed := true, recurses := true, apart := false }
def LinFormsSaid : Prop := linFormsRow.holds Try.pinned (OpenSpec.ofChange linFormsSpec)

/-- ITS FALSE NEIGHBOUR: 'it returns false'. Refute it at one input. -/
def linFormsWrong : ChangeSpec := { name := "linForms", fn := fun _ => fun
  | [d1, d2, d3] => { results := [.lit (.bool false)], args := [d1, d2, d3] }
  | _ => none }
def LinFormsWrongFalsely : Prop := linFormsRow.holds Try.pinned (OpenSpec.ofChange linFormsWrong)

/-- 'attestlaw08.LinSubsts': WHATEVER THE INPUT: true; the input reads as it did. -/
def linSubstsSpec : ChangeSpec := { name := "linSubsts", fn := fun _ => fun
  | [d1, d2, d3] => { results := [.lit (.bool true)], args := [d1, d2, d3] }
  | _ => none }
def linSubstsRow : OpenClaim := { program := "ytnbbhpihlcglgaa", sum := "df7e55e5956bfa8f405bf0308c38b5e2331272fa6aa62b23487c25f8d9adaf83", func := "attest/attestlaw08.LinSubsts", spec := "linSubsts", unfollowed := true, recurses := true, apart := false }
def LinSubstsSaid : Prop := linSubstsRow.holds Try.pinned (OpenSpec.ofChange linSubstsSpec)

/-- ITS FALSE NEIGHBOUR: 'it returns false'. Refute it at one input. -/
def linSubstsWrong : ChangeSpec := { name := "linSubsts", fn := fun _ => fun
  | [d1, d2, d3] => { results := [.lit (.bool false)], args := [d1, d2, d3] }
  | _ => none }
def LinSubstsWrongFalsely : Prop := linSubstsRow.holds Try.pinned (OpenSpec.ofChange linSubstsWrong)

/-- 'attestlaw08.LinValues': WHATEVER THE INPUT: true; the input reads as it did. -/
def linValuesSpec : ChangeSpec := { name := "linValues", fn := fun _ => fun
  | [d1, d2, d3, d4] => { results := [.lit (.bool true)], args := [d1, d2, d3, d4] }
  | _ => none }
def linValuesRow : OpenClaim := { program := "ytnbbhpihlcglgaa", sum := "df7e55e5956bfa8f405bf0308c38b5e2331272fa6aa62b23487c25f8d9adaf83", func := "attest/attestlaw08.LinValues", spec := "linValues", unfollowed := true, recurses := true, apart := false }
def LinValuesSaid : Prop := linValuesRow.holds Try.pinned (OpenSpec.ofChange linValuesSpec)

/-- ITS FALSE NEIGHBOUR: 'it returns false'. Refute it at one input. -/
def linValuesWrong : ChangeSpec := { name := "linValues", fn := fun _ => fun
  | [d1, d2, d3, d4] => { results := [.lit (.bool false)], args := [d1, d2, d3, d4] }
  | _ => none }
def LinValuesWrongFalsely : Prop := linValuesRow.holds Try.pinned (OpenSpec.ofChange linValuesWrong)

/-- 'attestlaw20.FarkasSums': WHATEVER THE INPUT: true; the input reads as it did. -/
def farkasSumsSpec : ChangeSpec := { name := "farkasSums", fn := fun _ => fun
  | [d1, d2] => { results := [.lit (.bool true)], args := [d1, d2] }
  | _ => none }
def farkasSumsRow : OpenClaim := { program := "ytnbbhpihlcglgaa", sum := "df7e55e5956bfa8f405bf0308c38b5e2331272fa6aa62b23487c25f8d9adaf83", func := "attest/attestlaw20.FarkasSums", spec := "farkasSums", unfollowed := true, recurses := true, apart := false }
def FarkasSumsSaid : Prop := farkasSumsRow.holds Try.pinned (OpenSpec.ofChange farkasSumsSpec)

/-- ITS FALSE NEIGHBOUR: 'it returns false'. Refute it at one input. -/
def farkasSumsWrong : ChangeSpec := { name := "farkasSums", fn := fun _ => fun
  | [d1, d2] => { results := [.lit (.bool false)], args := [d1, d2] }
  | _ => none }
def FarkasSumsWrongFalsely : Prop := farkasSumsRow.holds Try.pinned (OpenSpec.ofChange farkasSumsWrong)

/-- 'attestlaw20.FarkasSound': WHATEVER THE INPUT: true; the input reads as it did. -/
def farkasSoundSpec : ChangeSpec := { name := "farkasSound", fn := fun _ => fun
  | [d1, d2, d3] => { results := [.lit (.bool true)], args := [d1, d2, d3] }
  | _ => none }
def farkasSoundRow : OpenClaim := { program := "ytnbbhpihlcglgaa", sum := "df7e55e5956bfa8f405bf0308c38b5e2331272fa6aa62b23487c25f8d9adaf83", func := "attest/attestlaw20.FarkasSound", spec := "farkasSound", unfollowed := true, recurses := true, apart := false }
def FarkasSoundSaid : Prop := farkasSoundRow.holds Try.pinned (OpenSpec.ofChange farkasSoundSpec)

/-- ITS FALSE NEIGHBOUR: 'it returns false'. Refute it at one input. -/
def farkasSoundWrong : ChangeSpec := { name := "farkasSound", fn := fun _ => fun
  | [d1, d2, d3] => { results := [.lit (.bool false)], args := [d1, d2, d3] }
  | _ => none }
def FarkasSoundWrongFalsely : Prop := farkasSoundRow.holds Try.pinned (OpenSpec.ofChange farkasSoundWrong)

/-- 'attestlaw20.FarkasLeast': WHATEVER THE INPUT: true; the input reads as it did. -/
def farkasLeastSpec : ChangeSpec := { name := "farkasLeast", fn := fun _ => fun
  | [d1, d2] => { results := [.lit (.bool true)], args := [d1, d2] }
  | _ => none }
def farkasLeastRow : OpenClaim := { program := "ytnbbhpihlcglgaa", sum := "df7e55e5956bfa8f405bf0308c38b5e2331272fa6aa62b23487c25f8d9adaf83", func := "attest/attestlaw20.FarkasLeast", spec := "farkasLeast", unfollowed := true, recurses := true, apart := false }
def FarkasLeastSaid : Prop := farkasLeastRow.holds Try.pinned (OpenSpec.ofChange farkasLeastSpec)

/-- ITS FALSE NEIGHBOUR: 'it returns false'. Refute it at one input. -/
def farkasLeastWrong : ChangeSpec := { name := "farkasLeast", fn := fun _ => fun
  | [d1, d2] => { results := [.lit (.bool false)], args := [d1, d2] }
  | _ => none }
def FarkasLeastWrongFalsely : Prop := farkasLeastRow.holds Try.pinned (OpenSpec.ofChange farkasLeastWrong)

/-- 'attestlaw17.SpanThrough': WHATEVER THE INPUT: true; the input reads as it did. -/
def spanThroughSpec : ChangeSpec := { name := "spanThrough", fn := fun _ => fun
  | [d1, d2] => { results := [.lit (.bool true)], args := [d1, d2] }
  | _ => none }
def spanThroughRow : OpenClaim := { program := "ytnbbhpihlcglgaa", sum := "df7e55e5956bfa8f405bf0308c38b5e2331272fa6aa62b23487c25f8d9adaf83", func := "attest/attestlaw17.SpanThrough", spec := "spanThrough", unfollowed := true, recurses := true, apart := false }
def SpanThroughSaid : Prop := spanThroughRow.holds Try.pinned (OpenSpec.ofChange spanThroughSpec)

/-- ITS FALSE NEIGHBOUR: 'it returns false'. Refute it at one input. -/
def spanThroughWrong : ChangeSpec := { name := "spanThrough", fn := fun _ => fun
  | [d1, d2] => { results := [.lit (.bool false)], args := [d1, d2] }
  | _ => none }
def SpanThroughWrongFalsely : Prop := spanThroughRow.holds Try.pinned (OpenSpec.ofChange spanThroughWrong)

/-- 'attestlaw17.SpanHolds': WHATEVER THE INPUT: true; the input reads as it did. -/
def spanHoldsSpec : ChangeSpec := { name := "spanHolds", fn := fun _ => fun
  | [d1, d2, d3] => { results := [.lit (.bool true)], args := [d1, d2, d3] }
  | _ => none }
def spanHoldsRow : OpenClaim := { program := "ytnbbhpihlcglgaa", sum := "df7e55e5956bfa8f405bf0308c38b5e2331272fa6aa62b23487c25f8d9adaf83", func := "attest/attestlaw17.SpanHolds", spec := "spanHolds", unfollowed := true, recurses := true, apart := false }
def SpanHoldsSaid : Prop := spanHoldsRow.holds Try.pinned (OpenSpec.ofChange spanHoldsSpec)

/-- ITS FALSE NEIGHBOUR: 'it returns false'. Refute it at one input. -/
def spanHoldsWrong : ChangeSpec := { name := "spanHolds", fn := fun _ => fun
  | [d1, d2, d3] => { results := [.lit (.bool false)], args := [d1, d2, d3] }
  | _ => none }
def SpanHoldsWrongFalsely : Prop := spanHoldsRow.holds Try.pinned (OpenSpec.ofChange spanHoldsWrong)

/- THE SECOND FORM. 'bulk': how many values and letters a reading holds, each counted each time it is reached (what is shared counts as often as it is met; a slice's spare places count too). A statement '..UptoSaid' is the law's where the arguments, and the package variables that the reading takes, are together of bulk at most 1048576: NARROWER than '..Said'. Prove '..Said' where nothing that the law and all that it calls make is longer than what came in: it says more and counts as full. Else prove '..UptoSaid'. A law counts once. -/
mutual
def uptoBulk {H : Type} : DataW H → Nat
  | .lit (.string bytes) => bytes.length + 1
  | .lit _ => 1
  | .nil => 1
  | .ptr d => uptoBulk d + 1
  | .slice elems spare => uptoBulkAll elems + uptoBulkAll spare + 1
  | .agg parts => uptoBulkAll parts + 1
  | .iface _ d => uptoBulk d + 1
  | .map entries => uptoBulkEntries entries + 1
  | .held _ => 1
def uptoBulkAll {H : Type} : List (DataW H) → Nat
  | [] => 0
  | d :: r => uptoBulk d + uptoBulkAll r
def uptoBulkEntries {H : Type} : List (Lit × DataW H) → Nat
  | [] => 0
  | x :: r => uptoBulkEntry x + uptoBulkEntries r
def uptoBulkEntry {H : Type} : Lit × DataW H → Nat
  | (.string bytes, d) => bytes.length + uptoBulk d + 1
  | (_, d) => uptoBulk d + 1
 end
def uptoSmall : (H : Type) → List (DataW H) → Bool := fun _ ds => decide (uptoBulkAll ds ≤ 1048576)
def OpenSpec.upto (s : _root_.Go.ChangeSpec) : _root_.Go.OpenSpec := { _root_.Go.OpenSpec.ofChange s with cond := some uptoSmall }

/-- 'attestlaw17.SpanWeighs', WHERE WHAT IT READS IS OF BULK AT MOST 1048576: true; the input reads as it did. -/
def spanWeighsUptoRow : OpenClaim := { program := "ytnbbhpihlcglgaa", sum := "df7e55e5956bfa8f405bf0308c38b5e2331272fa6aa62b23487c25f8d9adaf83", func := "attest/attestlaw17.SpanWeighs", spec := "spanWeighs", apart := false, narrowed := true }
def SpanWeighsUptoSaid : Prop := spanWeighsUptoRow.holds Try.pinned (OpenSpec.upto spanWeighsSpec)

/-- 'attestlaw08.LinSames', WHERE WHAT IT READS IS OF BULK AT MOST 1048576: true; the input reads as it did. -/
def linSamesUptoRow : OpenClaim := { program := "ytnbbhpihlcglgaa", sum := "df7e55e5956bfa8f405bf0308c38b5e2331272fa6aa62b23487c25f8d9adaf83", func := "attest/attestlaw08.LinSames", spec := "linSames", unfollowed := true, recurses := true, apart := false, narrowed := true }
def LinSamesUptoSaid : Prop := linSamesUptoRow.holds Try.pinned (OpenSpec.upto linSamesSpec)

/-- 'attestlaw08.LinSums', WHERE WHAT IT READS IS OF BULK AT MOST 1048576: true; the input reads as it did. -/
def linSumsUptoRow : OpenClaim := { program := "ytnbbhpihlcglgaa", sum := "df7e55e5956bfa8f405bf0308c38b5e2331272fa6aa62b23487c25f8d9adaf83", func := "attest/attestlaw08.LinSums", spec := "linSums", unfollowed := true, recurses := true, apart := false, narrowed := true }
def LinSumsUptoSaid : Prop := linSumsUptoRow.holds Try.pinned (OpenSpec.upto linSumsSpec)

/-- 'attestlaw08.LinLends', WHERE WHAT IT READS IS OF BULK AT MOST 1048576: true; the input reads as it did. -/
def linLendsUptoRow : OpenClaim := { program := "ytnbbhpihlcglgaa", sum := "df7e55e5956bfa8f405bf0308c38b5e2331272fa6aa62b23487c25f8d9adaf83", func := "attest/attestlaw08.LinLends", spec := "linLends", unfollowed := true, recurses := true, apart := false, narrowed := true }
def LinLendsUptoSaid : Prop := linLendsUptoRow.holds Try.pinned (OpenSpec.upto linLendsSpec)

/-- 'attestlaw08.LinForms', WHERE WHAT IT READS IS OF BULK AT MOST 1048576: true; the input reads as it did. -/
def linFormsUptoRow : OpenClaim := { program := "ytnbbhpihlcglgaa", sum := "df7e55e5956bfa8f405bf0308c38b5e2331272fa6aa62b23487c25f8d9adaf83", func := "attest/attestlaw08.LinForms", spec := "linForms", unfollowed := true, recurses := true, apart := false, narrowed := true }
def LinFormsUptoSaid : Prop := linFormsUptoRow.holds Try.pinned (OpenSpec.upto linFormsSpec)

/-- 'attestlaw08.LinSubsts', WHERE WHAT IT READS IS OF BULK AT MOST 1048576: true; the input reads as it did. -/
def linSubstsUptoRow : OpenClaim := { program := "ytnbbhpihlcglgaa", sum := "df7e55e5956bfa8f405bf0308c38b5e2331272fa6aa62b23487c25f8d9adaf83", func := "attest/attestlaw08.LinSubsts", spec := "linSubsts", unfollowed := true, recurses := true, apart := false, narrowed := true }
def LinSubstsUptoSaid : Prop := linSubstsUptoRow.holds Try.pinned (OpenSpec.upto linSubstsSpec)

/-- 'attestlaw08.LinValues', WHERE WHAT IT READS IS OF BULK AT MOST 1048576: true; the input reads as it did. -/
def linValuesUptoRow : OpenClaim := { program := "ytnbbhpihlcglgaa", sum := "df7e55e5956bfa8f405bf0308c38b5e2331272fa6aa62b23487c25f8d9adaf83", func := "attest/attestlaw08.LinValues", spec := "linValues", unfollowed := true, recurses := true, apart := false, narrowed := true }
def LinValuesUptoSaid : Prop := linValuesUptoRow.holds Try.pinned (OpenSpec.upto linValuesSpec)

/-- 'attestlaw20.FarkasSums', WHERE WHAT IT READS IS OF BULK AT MOST 1048576: true; the input reads as it did. -/
def farkasSumsUptoRow : OpenClaim := { program := "ytnbbhpihlcglgaa", sum := "df7e55e5956bfa8f405bf0308c38b5e2331272fa6aa62b23487c25f8d9adaf83", func := "attest/attestlaw20.FarkasSums", spec := "farkasSums", unfollowed := true, recurses := true, apart := false, narrowed := true }
def FarkasSumsUptoSaid : Prop := farkasSumsUptoRow.holds Try.pinned (OpenSpec.upto farkasSumsSpec)

/-- 'attestlaw20.FarkasSound', WHERE WHAT IT READS IS OF BULK AT MOST 1048576: true; the input reads as it did. -/
def farkasSoundUptoRow : OpenClaim := { program := "ytnbbhpihlcglgaa", sum := "df7e55e5956bfa8f405bf0308c38b5e2331272fa6aa62b23487c25f8d9adaf83", func := "attest/attestlaw20.FarkasSound", spec := "farkasSound", unfollowed := true, recurses := true, apart := false, narrowed := true }
def FarkasSoundUptoSaid : Prop := farkasSoundUptoRow.holds Try.pinned (OpenSpec.upto farkasSoundSpec)

/-- 'attestlaw20.FarkasLeast', WHERE WHAT IT READS IS OF BULK AT MOST 1048576: true; the input reads as it did. -/
def farkasLeastUptoRow : OpenClaim := { program := "ytnbbhpihlcglgaa", sum := "df7e55e5956bfa8f405bf0308c38b5e2331272fa6aa62b23487c25f8d9adaf83", func := "attest/attestlaw20.FarkasLeast", spec := "farkasLeast", unfollowed := true, recurses := true, apart := false, narrowed := true }
def FarkasLeastUptoSaid : Prop := farkasLeastUptoRow.holds Try.pinned (OpenSpec.upto farkasLeastSpec)

/-- 'attestlaw17.SpanThrough', WHERE WHAT IT READS IS OF BULK AT MOST 1048576: true; the input reads as it did. -/
def spanThroughUptoRow : OpenClaim := { program := "ytnbbhpihlcglgaa", sum := "df7e55e5956bfa8f405bf0308c38b5e2331272fa6aa62b23487c25f8d9adaf83", func := "attest/attestlaw17.SpanThrough", spec := "spanThrough", unfollowed := true, recurses := true, apart := false, narrowed := true }
def SpanThroughUptoSaid : Prop := spanThroughUptoRow.holds Try.pinned (OpenSpec.upto spanThroughSpec)

/-- 'attestlaw17.SpanHolds', WHERE WHAT IT READS IS OF BULK AT MOST 1048576: true; the input reads as it did. -/
def spanHoldsUptoRow : OpenClaim := { program := "ytnbbhpihlcglgaa", sum := "df7e55e5956bfa8f405bf0308c38b5e2331272fa6aa62b23487c25f8d9adaf83", func := "attest/attestlaw17.SpanHolds", spec := "spanHolds", unfollowed := true, recurses := true, apart := false, narrowed := true }
def SpanHoldsUptoSaid : Prop := spanHoldsUptoRow.holds Try.pinned (OpenSpec.upto spanHoldsSpec)

end Rows
end Go.Proofs.Ytnbbhpihlcglgaa
