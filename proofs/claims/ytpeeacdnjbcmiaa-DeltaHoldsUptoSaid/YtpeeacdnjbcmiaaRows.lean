/-
  No cell of these rows narrows 'for every input' (looked for: loops, veiled, ifaces, maps, wideKeys, modest, calm, conditions, laid).
  DERIVED. THE GIVEN ROWS OF THIS SEAT. 12 by the template 'for every input the law returns true; each argument reads behind the call as it read before'; 0 by the template 'total and deterministic' (their statements: YtpeeacdnjbcmiaaTotals.lean).
  GIVEN WITH THE SEED: the statements are not yours to turn. If you find one false, say at which input.
  Laid BY PROGRAM, IN A SANDBOX (cutbox-rows.mjs): the forced cells as the released guide's own fill.sh prints them over the translation d83f82849edda143… (all of the seat's roots in one cut). By AI agents, Wed Nov 11 2026. No macro, syntax, notation, axiom, sorry.
-/
import Derived.Test.YtpeeacdnjbcmiaaChecked
import GoSem.Claim
import GoSem.ClaimJoined
import GoSem.ClaimMapViews
import Derived.JoinedTies
import Derived.KernelRfl
namespace Go.Proofs.Ytpeeacdnjbcmiaa
/- THE CELL 'sum', in the pinned program and in every row, IS THE sha256 OF THE DUMP (.gsa) THAT YtpeeacdnjbcmiaaProg.lean LOADS. Nothing in Lean hashes anything: it is a label: what it is worth is what the hold of that sum in a sandbox is worth. -/
noncomputable def Try.pinned : Pinned := { name := "ytpeeacdnjbcmiaa", sum := "d83f82849edda14300a4160d227046c9495f6752caa36b95a5591b71234675fc", checked := Try.checked }
namespace Rows
def none {H : Type} : Left H := { results := [], args := [] }

/-- 'attestlaw07.DeltaSums': WHATEVER THE INPUT: true; the input reads as it did. -/
def deltaSumsSpec : ChangeSpec := { name := "deltaSums", fn := fun _ => fun
  | [d1, d2, d3] => { results := [.lit (.bool true)], args := [d1, d2, d3] }
  | _ => none }
def deltaSumsRow : OpenClaim := { program := "ytpeeacdnjbcmiaa", sum := "d83f82849edda14300a4160d227046c9495f6752caa36b95a5591b71234675fc", func := "attest/attestlaw07.DeltaSums", spec := "deltaSums", apart := false }
def DeltaSumsSaid : Prop := deltaSumsRow.holds Try.pinned (OpenSpec.ofChange deltaSumsSpec)

/-- ITS FALSE NEIGHBOUR: 'it returns false'. Refute it at one input. -/
def deltaSumsWrong : ChangeSpec := { name := "deltaSums", fn := fun _ => fun
  | [d1, d2, d3] => { results := [.lit (.bool false)], args := [d1, d2, d3] }
  | _ => none }
def DeltaSumsWrongFalsely : Prop := deltaSumsRow.holds Try.pinned (OpenSpec.ofChange deltaSumsWrong)

/-- 'attestlaw17.SpanEnds': WHATEVER THE INPUT: true; the input reads as it did. -/
def spanEndsSpec : ChangeSpec := { name := "spanEnds", fn := fun _ => fun
  | [d1, d2, d3] => { results := [.lit (.bool true)], args := [d1, d2, d3] }
  | _ => none }
def spanEndsRow : OpenClaim := { program := "ytpeeacdnjbcmiaa", sum := "d83f82849edda14300a4160d227046c9495f6752caa36b95a5591b71234675fc", func := "attest/attestlaw17.SpanEnds", spec := "spanEnds", apart := false }
def SpanEndsSaid : Prop := spanEndsRow.holds Try.pinned (OpenSpec.ofChange spanEndsSpec)

/-- ITS FALSE NEIGHBOUR: 'it returns false'. Refute it at one input. -/
def spanEndsWrong : ChangeSpec := { name := "spanEnds", fn := fun _ => fun
  | [d1, d2, d3] => { results := [.lit (.bool false)], args := [d1, d2, d3] }
  | _ => none }
def SpanEndsWrongFalsely : Prop := spanEndsRow.holds Try.pinned (OpenSpec.ofChange spanEndsWrong)

/-- 'attestlaw17.SpanMaxes': WHATEVER THE INPUT: true; the input reads as it did. -/
def spanMaxesSpec : ChangeSpec := { name := "spanMaxes", fn := fun _ => fun
  | [d] => { results := [.lit (.bool true)], args := [d] }
  | _ => none }
def spanMaxesRow : OpenClaim := { program := "ytpeeacdnjbcmiaa", sum := "d83f82849edda14300a4160d227046c9495f6752caa36b95a5591b71234675fc", func := "attest/attestlaw17.SpanMaxes", spec := "spanMaxes", apart := false }
def SpanMaxesSaid : Prop := spanMaxesRow.holds Try.pinned (OpenSpec.ofChange spanMaxesSpec)

/-- ITS FALSE NEIGHBOUR: 'it returns false'. Refute it at one input. -/
def spanMaxesWrong : ChangeSpec := { name := "spanMaxes", fn := fun _ => fun
  | [d] => { results := [.lit (.bool false)], args := [d] }
  | _ => none }
def SpanMaxesWrongFalsely : Prop := spanMaxesRow.holds Try.pinned (OpenSpec.ofChange spanMaxesWrong)

/-- 'attestlaw17.SpanWeighs': WHATEVER THE INPUT: true; the input reads as it did. -/
def spanWeighsSpec : ChangeSpec := { name := "spanWeighs", fn := fun _ => fun
  | [d1, d2, d3, d4] => { results := [.lit (.bool true)], args := [d1, d2, d3, d4] }
  | _ => none }
def spanWeighsRow : OpenClaim := { program := "ytpeeacdnjbcmiaa", sum := "d83f82849edda14300a4160d227046c9495f6752caa36b95a5591b71234675fc", func := "attest/attestlaw17.SpanWeighs", spec := "spanWeighs", apart := false }
def SpanWeighsSaid : Prop := spanWeighsRow.holds Try.pinned (OpenSpec.ofChange spanWeighsSpec)

/-- ITS FALSE NEIGHBOUR: 'it returns false'. Refute it at one input. -/
def spanWeighsWrong : ChangeSpec := { name := "spanWeighs", fn := fun _ => fun
  | [d1, d2, d3, d4] => { results := [.lit (.bool false)], args := [d1, d2, d3, d4] }
  | _ => none }
def SpanWeighsWrongFalsely : Prop := spanWeighsRow.holds Try.pinned (OpenSpec.ofChange spanWeighsWrong)

/-- 'attestlaw07.DeltaChoice': WHATEVER THE INPUT: true; the input reads as it did. -/
def deltaChoiceSpec : ChangeSpec := { name := "deltaChoice", fn := fun _ => fun
  | [d1, d2] => { results := [.lit (.bool true)], args := [d1, d2] }
  | _ => none }
def deltaChoiceRow : OpenClaim := { program := "ytpeeacdnjbcmiaa", sum := "d83f82849edda14300a4160d227046c9495f6752caa36b95a5591b71234675fc", func := "attest/attestlaw07.DeltaChoice", spec := "deltaChoice", apart := false }
def DeltaChoiceSaid : Prop := deltaChoiceRow.holds Try.pinned (OpenSpec.ofChange deltaChoiceSpec)

/-- ITS FALSE NEIGHBOUR: 'it returns false'. Refute it at one input. -/
def deltaChoiceWrong : ChangeSpec := { name := "deltaChoice", fn := fun _ => fun
  | [d1, d2] => { results := [.lit (.bool false)], args := [d1, d2] }
  | _ => none }
def DeltaChoiceWrongFalsely : Prop := deltaChoiceRow.holds Try.pinned (OpenSpec.ofChange deltaChoiceWrong)

/-- 'attestlaw07.DeltaHolds': WHATEVER THE INPUT: true; the input reads as it did. -/
def deltaHoldsSpec : ChangeSpec := { name := "deltaHolds", fn := fun _ => fun
  | [d1, d2, d3] => { results := [.lit (.bool true)], args := [d1, d2, d3] }
  | _ => none }
def deltaHoldsRow : OpenClaim := { program := "ytpeeacdnjbcmiaa", sum := "d83f82849edda14300a4160d227046c9495f6752caa36b95a5591b71234675fc", func := "attest/attestlaw07.DeltaHolds", spec := "deltaHolds", apart := false }
def DeltaHoldsSaid : Prop := deltaHoldsRow.holds Try.pinned (OpenSpec.ofChange deltaHoldsSpec)

/-- ITS FALSE NEIGHBOUR: 'it returns false'. Refute it at one input. -/
def deltaHoldsWrong : ChangeSpec := { name := "deltaHolds", fn := fun _ => fun
  | [d1, d2, d3] => { results := [.lit (.bool false)], args := [d1, d2, d3] }
  | _ => none }
def DeltaHoldsWrongFalsely : Prop := deltaHoldsRow.holds Try.pinned (OpenSpec.ofChange deltaHoldsWrong)

/-- 'attestlaw08.LinSames': WHATEVER THE INPUT: true; the input reads as it did. -/
def linSamesSpec : ChangeSpec := { name := "linSames", fn := fun _ => fun
  | [d1, d2] => { results := [.lit (.bool true)], args := [d1, d2] }
  | _ => none }
def linSamesRow : OpenClaim := { program := "ytpeeacdnjbcmiaa", sum := "d83f82849edda14300a4160d227046c9495f6752caa36b95a5591b71234675fc", func := "attest/attestlaw08.LinSames", spec := "linSames", unfollowed := true, recurses := true, apart := false }
def LinSamesSaid : Prop := linSamesRow.holds Try.pinned (OpenSpec.ofChange linSamesSpec)

/-- ITS FALSE NEIGHBOUR: 'it returns false'. Refute it at one input. -/
def linSamesWrong : ChangeSpec := { name := "linSames", fn := fun _ => fun
  | [d1, d2] => { results := [.lit (.bool false)], args := [d1, d2] }
  | _ => none }
def LinSamesWrongFalsely : Prop := linSamesRow.holds Try.pinned (OpenSpec.ofChange linSamesWrong)

/-- 'attestlaw08.LinSums': WHATEVER THE INPUT: true; the input reads as it did. -/
def linSumsSpec : ChangeSpec := { name := "linSums", fn := fun _ => fun
  | [d1, d2, d3] => { results := [.lit (.bool true)], args := [d1, d2, d3] }
  | _ => none }
def linSumsRow : OpenClaim := { program := "ytpeeacdnjbcmiaa", sum := "d83f82849edda14300a4160d227046c9495f6752caa36b95a5591b71234675fc", func := "attest/attestlaw08.LinSums", spec := "linSums", unfollowed := true, recurses := true, apart := false }
def LinSumsSaid : Prop := linSumsRow.holds Try.pinned (OpenSpec.ofChange linSumsSpec)

/-- ITS FALSE NEIGHBOUR: 'it returns false'. Refute it at one input. -/
def linSumsWrong : ChangeSpec := { name := "linSums", fn := fun _ => fun
  | [d1, d2, d3] => { results := [.lit (.bool false)], args := [d1, d2, d3] }
  | _ => none }
def LinSumsWrongFalsely : Prop := linSumsRow.holds Try.pinned (OpenSpec.ofChange linSumsWrong)

/-- 'attestlaw08.LinLends': WHATEVER THE INPUT: true; the input reads as it did. -/
def linLendsSpec : ChangeSpec := { name := "linLends", fn := fun _ => fun
  | [d1, d2] => { results := [.lit (.bool true)], args := [d1, d2] }
  | _ => none }
def linLendsRow : OpenClaim := { program := "ytpeeacdnjbcmiaa", sum := "d83f82849edda14300a4160d227046c9495f6752caa36b95a5591b71234675fc", func := "attest/attestlaw08.LinLends", spec := "linLends", unfollowed := true, recurses := true, apart := false }
def LinLendsSaid : Prop := linLendsRow.holds Try.pinned (OpenSpec.ofChange linLendsSpec)

/-- ITS FALSE NEIGHBOUR: 'it returns false'. Refute it at one input. -/
def linLendsWrong : ChangeSpec := { name := "linLends", fn := fun _ => fun
  | [d1, d2] => { results := [.lit (.bool false)], args := [d1, d2] }
  | _ => none }
def LinLendsWrongFalsely : Prop := linLendsRow.holds Try.pinned (OpenSpec.ofChange linLendsWrong)

/-- 'attestlaw08.LinForms': WHATEVER THE INPUT: true; the input reads as it did. -/
def linFormsSpec : ChangeSpec := { name := "linForms", fn := fun _ => fun
  | [d1, d2, d3] => { results := [.lit (.bool true)], args := [d1, d2, d3] }
  | _ => none }
def linFormsRow : OpenClaim := { program := "ytpeeacdnjbcmiaa", sum := "d83f82849edda14300a4160d227046c9495f6752caa36b95a5591b71234675fc", func := "attest/attestlaw08.LinForms", spec := "linForms", unfollowed := true, recurses := true, apart := false }
def LinFormsSaid : Prop := linFormsRow.holds Try.pinned (OpenSpec.ofChange linFormsSpec)

/-- ITS FALSE NEIGHBOUR: 'it returns false'. Refute it at one input. -/
def linFormsWrong : ChangeSpec := { name := "linForms", fn := fun _ => fun
  | [d1, d2, d3] => { results := [.lit (.bool false)], args := [d1, d2, d3] }
  | _ => none }
def LinFormsWrongFalsely : Prop := linFormsRow.holds Try.pinned (OpenSpec.ofChange linFormsWrong)

/-- 'attestlaw08.LinSubsts': WHATEVER THE INPUT: true; the input reads as it did. -/
def linSubstsSpec : ChangeSpec := { name := "linSubsts", fn := fun _ => fun
  | [d1, d2, d3] => { results := [.lit (.bool true)], args := [d1, d2, d3] }
  | _ => none }
def linSubstsRow : OpenClaim := { program := "ytpeeacdnjbcmiaa", sum := "d83f82849edda14300a4160d227046c9495f6752caa36b95a5591b71234675fc", func := "attest/attestlaw08.LinSubsts", spec := "linSubsts", unfollowed := true, recurses := true, apart := false }
def LinSubstsSaid : Prop := linSubstsRow.holds Try.pinned (OpenSpec.ofChange linSubstsSpec)

/-- ITS FALSE NEIGHBOUR: 'it returns false'. Refute it at one input. -/
def linSubstsWrong : ChangeSpec := { name := "linSubsts", fn := fun _ => fun
  | [d1, d2, d3] => { results := [.lit (.bool false)], args := [d1, d2, d3] }
  | _ => none }
def LinSubstsWrongFalsely : Prop := linSubstsRow.holds Try.pinned (OpenSpec.ofChange linSubstsWrong)

/-- 'attestlaw08.LinValues': WHATEVER THE INPUT: true; the input reads as it did. -/
def linValuesSpec : ChangeSpec := { name := "linValues", fn := fun _ => fun
  | [d1, d2, d3, d4] => { results := [.lit (.bool true)], args := [d1, d2, d3, d4] }
  | _ => none }
def linValuesRow : OpenClaim := { program := "ytpeeacdnjbcmiaa", sum := "d83f82849edda14300a4160d227046c9495f6752caa36b95a5591b71234675fc", func := "attest/attestlaw08.LinValues", spec := "linValues", unfollowed := true, recurses := true, apart := false }
def LinValuesSaid : Prop := linValuesRow.holds Try.pinned (OpenSpec.ofChange linValuesSpec)

/-- ITS FALSE NEIGHBOUR: 'it returns false'. Refute it at one input. -/
def linValuesWrong : ChangeSpec := { name := "linValues", fn := fun _ => fun
  | [d1, d2, d3, d4] => { results := [.lit (.bool false)], args := [d1, d2, d3, d4] }
  | _ => none }
def LinValuesWrongFalsely : Prop := linValuesRow.holds Try.pinned (OpenSpec.ofChange linValuesWrong)

/- THE SECOND FORM. 'bulk': how many values and letters a reading holds, each counted each time it is reached (what is shared counts as often as it is met; a slice's spare places count too). A statement '..UptoSaid' is the law's where the arguments, and the package variables that the reading takes, are together of bulk at most 1048576: NARROWER than '..Said'. Prove '..Said' where nothing that the law and all that it calls make is longer than what came in: it says more and counts as full. Else prove '..UptoSaid'. A law counts once. -/
mutual
def uptoBulk {H : Type} : DataW H → Nat
  | .lit (.string bytes) => bytes.length + 1
  | .lit _ => 1
  | .nil => 1
  | .ptr d => uptoBulk d + 1
  | .slice elems spare => uptoBulkAll elems + uptoBulkAll spare + 1
  | .agg parts => uptoBulkAll parts + 1
  | .iface _ d => uptoBulk d + 1
  | .map entries => uptoBulkEntries entries + 1
  | .held _ => 1
def uptoBulkAll {H : Type} : List (DataW H) → Nat
  | [] => 0
  | d :: r => uptoBulk d + uptoBulkAll r
def uptoBulkEntries {H : Type} : List (Lit × DataW H) → Nat
  | [] => 0
  | x :: r => uptoBulkEntry x + uptoBulkEntries r
def uptoBulkEntry {H : Type} : Lit × DataW H → Nat
  | (.string bytes, d) => bytes.length + uptoBulk d + 1
  | (_, d) => uptoBulk d + 1
 end
def uptoSmall : (H : Type) → List (DataW H) → Bool := fun _ ds => decide (uptoBulkAll ds ≤ 1048576)
def OpenSpec.upto (s : _root_.Go.ChangeSpec) : _root_.Go.OpenSpec := { _root_.Go.OpenSpec.ofChange s with cond := some uptoSmall }

/-- 'attestlaw07.DeltaSums', WHERE WHAT IT READS IS OF BULK AT MOST 1048576: true; the input reads as it did. -/
def deltaSumsUptoRow : OpenClaim := { program := "ytpeeacdnjbcmiaa", sum := "d83f82849edda14300a4160d227046c9495f6752caa36b95a5591b71234675fc", func := "attest/attestlaw07.DeltaSums", spec := "deltaSums", apart := false, narrowed := true }
def DeltaSumsUptoSaid : Prop := deltaSumsUptoRow.holds Try.pinned (OpenSpec.upto deltaSumsSpec)

/-- 'attestlaw17.SpanEnds', WHERE WHAT IT READS IS OF BULK AT MOST 1048576: true; the input reads as it did. -/
def spanEndsUptoRow : OpenClaim := { program := "ytpeeacdnjbcmiaa", sum := "d83f82849edda14300a4160d227046c9495f6752caa36b95a5591b71234675fc", func := "attest/attestlaw17.SpanEnds", spec := "spanEnds", apart := false, narrowed := true }
def SpanEndsUptoSaid : Prop := spanEndsUptoRow.holds Try.pinned (OpenSpec.upto spanEndsSpec)

/-- 'attestlaw17.SpanMaxes', WHERE WHAT IT READS IS OF BULK AT MOST 1048576: true; the input reads as it did. -/
def spanMaxesUptoRow : OpenClaim := { program := "ytpeeacdnjbcmiaa", sum := "d83f82849edda14300a4160d227046c9495f6752caa36b95a5591b71234675fc", func := "attest/attestlaw17.SpanMaxes", spec := "spanMaxes", apart := false, narrowed := true }
def SpanMaxesUptoSaid : Prop := spanMaxesUptoRow.holds Try.pinned (OpenSpec.upto spanMaxesSpec)

/-- 'attestlaw17.SpanWeighs', WHERE WHAT IT READS IS OF BULK AT MOST 1048576: true; the input reads as it did. -/
def spanWeighsUptoRow : OpenClaim := { program := "ytpeeacdnjbcmiaa", sum := "d83f82849edda14300a4160d227046c9495f6752caa36b95a5591b71234675fc", func := "attest/attestlaw17.SpanWeighs", spec := "spanWeighs", apart := false, narrowed := true }
def SpanWeighsUptoSaid : Prop := spanWeighsUptoRow.holds Try.pinned (OpenSpec.upto spanWeighsSpec)

/-- 'attestlaw07.DeltaChoice', WHERE WHAT IT READS IS OF BULK AT MOST 1048576: true; the input reads as it did. -/
def deltaChoiceUptoRow : OpenClaim := { program := "ytpeeacdnjbcmiaa", sum := "d83f82849edda14300a4160d227046c9495f6752caa36b95a5591b71234675fc", func := "attest/attestlaw07.DeltaChoice", spec := "deltaChoice", apart := false, narrowed := true }
def DeltaChoiceUptoSaid : Prop := deltaChoiceUptoRow.holds Try.pinned (OpenSpec.upto deltaChoiceSpec)

/-- 'attestlaw07.DeltaHolds', WHERE WHAT IT READS IS OF BULK AT MOST 1048576: true; the input reads as it did. -/
def deltaHoldsUptoRow : OpenClaim := { program := "ytpeeacdnjbcmiaa", sum := "d83f82849edda14300a4160d227046c9495f6752caa36b95a5591b71234675fc", func := "attest/attestlaw07.DeltaHolds", spec := "deltaHolds", apart := false, narrowed := true }
def DeltaHoldsUptoSaid : Prop := deltaHoldsUptoRow.holds Try.pinned (OpenSpec.upto deltaHoldsSpec)

/-- 'attestlaw08.LinSames', WHERE WHAT IT READS IS OF BULK AT MOST 1048576: true; the input reads as it did. -/
def linSamesUptoRow : OpenClaim := { program := "ytpeeacdnjbcmiaa", sum := "d83f82849edda14300a4160d227046c9495f6752caa36b95a5591b71234675fc", func := "attest/attestlaw08.LinSames", spec := "linSames", unfollowed := true, recurses := true, apart := false, narrowed := true }
def LinSamesUptoSaid : Prop := linSamesUptoRow.holds Try.pinned (OpenSpec.upto linSamesSpec)

/-- 'attestlaw08.LinSums', WHERE WHAT IT READS IS OF BULK AT MOST 1048576: true; the input reads as it did. -/
def linSumsUptoRow : OpenClaim := { program := "ytpeeacdnjbcmiaa", sum := "d83f82849edda14300a4160d227046c9495f6752caa36b95a5591b71234675fc", func := "attest/attestlaw08.LinSums", spec := "linSums", unfollowed := true, recurses := true, apart := false, narrowed := true }
def LinSumsUptoSaid : Prop := linSumsUptoRow.holds Try.pinned (OpenSpec.upto linSumsSpec)

/-- 'attestlaw08.LinLends', WHERE WHAT IT READS IS OF BULK AT MOST 1048576: true; the input reads as it did. -/
def linLendsUptoRow : OpenClaim := { program := "ytpeeacdnjbcmiaa", sum := "d83f82849edda14300a4160d227046c9495f6752caa36b95a5591b71234675fc", func := "attest/attestlaw08.LinLends", spec := "linLends", unfollowed := true, recurses := true, apart := false, narrowed := true }
def LinLendsUptoSaid : Prop := linLendsUptoRow.holds Try.pinned (OpenSpec.upto linLendsSpec)

/-- 'attestlaw08.LinForms', WHERE WHAT IT READS IS OF BULK AT MOST 1048576: true; the input reads as it did. -/
def linFormsUptoRow : OpenClaim := { program := "ytpeeacdnjbcmiaa", sum := "d83f82849edda14300a4160d227046c9495f6752caa36b95a5591b71234675fc", func := "attest/attestlaw08.LinForms", spec := "linForms", unfollowed := true, recurses := true, apart := false, narrowed := true }
def LinFormsUptoSaid : Prop := linFormsUptoRow.holds Try.pinned (OpenSpec.upto linFormsSpec)

/-- 'attestlaw08.LinSubsts', WHERE WHAT IT READS IS OF BULK AT MOST 1048576: true; the input reads as it did. -/
def linSubstsUptoRow : OpenClaim := { program := "ytpeeacdnjbcmiaa", sum := "d83f82849edda14300a4160d227046c9495f6752caa36b95a5591b71234675fc", func := "attest/attestlaw08.LinSubsts", spec := "linSubsts", unfollowed := true, recurses := true, apart := false, narrowed := true }
def LinSubstsUptoSaid : Prop := linSubstsUptoRow.holds Try.pinned (OpenSpec.upto linSubstsSpec)

/-- 'attestlaw08.LinValues', WHERE WHAT IT READS IS OF BULK AT MOST 1048576: true; the input reads as it did. -/
def linValuesUptoRow : OpenClaim := { program := "ytpeeacdnjbcmiaa", sum := "d83f82849edda14300a4160d227046c9495f6752caa36b95a5591b71234675fc", func := "attest/attestlaw08.LinValues", spec := "linValues", unfollowed := true, recurses := true, apart := false, narrowed := true }
def LinValuesUptoSaid : Prop := linValuesUptoRow.holds Try.pinned (OpenSpec.upto linValuesSpec)

end Rows
end Go.Proofs.Ytpeeacdnjbcmiaa
