/-
  No cell of these rows narrows 'for every input' (looked for: loops, veiled, ifaces, maps, wideKeys, modest, calm, conditions, laid).
  DERIVED. THE GIVEN ROWS OF THIS SEAT. 5 by the template 'for every input the law returns true; each argument reads behind the call as it read before'; 0 by the template 'total and deterministic' (their statements: YthpaifdfafjlcaaGreatTotals.lean).
  GIVEN WITH THE SEED: the statements are not yours to turn. If you find one false, say at which input.
  Laid BY PROGRAM, IN A SANDBOX (cutbox-rows.mjs): the forced cells as the released guide's own fill.sh prints them over the translation 1a685db1a61965a3… (all of the seat's roots in one cut). By AI agents, Wed Nov 11 2026. No macro, syntax, notation, axiom, sorry.
-/
import Derived.Test.YthpaifdfafjlcaaGreatChecked
import GoSem.Claim
import GoSem.ClaimJoined
import GoSem.ClaimMapViews
import Derived.JoinedTies
import Derived.KernelRfl
namespace Go.Proofs.YthpaifdfafjlcaaGreat
/- THE CELL 'sum', in the pinned program and in every row, IS THE sha256 OF THE DUMP (.gsa) THAT YthpaifdfafjlcaaGreatProg.lean LOADS. Nothing in Lean hashes anything: it is a label: what it is worth is what the hold of that sum in a sandbox is worth. -/
noncomputable def Tryz.pinned : Pinned := { name := "ythpaifdfafjlcaagreat", sum := "1a685db1a61965a355e0f980ef2eac60038be5a9a6eb3fa6d348c6b4793cc7f2", checked := Tryz.checked }
namespace Rows
def none {H : Type} : Left H := { results := [], args := [] }

/-- 'attestlaw21.SimplexChecks': WHATEVER THE INPUT: true; the input reads as it did. -/
def simplexChecksSpec : ChangeSpec := { name := "simplexChecks", fn := fun _ => fun
  | [d1, d2] => { results := [.lit (.bool true)], args := [d1, d2] }
  | _ => none }
def simplexChecksRow : OpenClaim := { program := "ythpaifdfafjlcaagreat", sum := "1a685db1a61965a355e0f980ef2eac60038be5a9a6eb3fa6d348c6b4793cc7f2", func := "attest/attestlaw21.SimplexChecks", spec := "simplexChecks", unfollowed := true, recurses := true, apart := false }
def SimplexChecksSaid : Prop := simplexChecksRow.holds Tryz.pinned (OpenSpec.ofChange simplexChecksSpec)

/-- ITS FALSE NEIGHBOUR: 'it returns false'. Refute it at one input. -/
def simplexChecksWrong : ChangeSpec := { name := "simplexChecks", fn := fun _ => fun
  | [d1, d2] => { results := [.lit (.bool false)], args := [d1, d2] }
  | _ => none }
def SimplexChecksWrongFalsely : Prop := simplexChecksRow.holds Tryz.pinned (OpenSpec.ofChange simplexChecksWrong)

/-- 'attestlaw21.SimplexDecides': WHATEVER THE INPUT: true; the input reads as it did. -/
def simplexDecidesSpec : ChangeSpec := { name := "simplexDecides", fn := fun _ => fun
  | [d1, d2] => { results := [.lit (.bool true)], args := [d1, d2] }
  | _ => none }
def simplexDecidesRow : OpenClaim := { program := "ythpaifdfafjlcaagreat", sum := "1a685db1a61965a355e0f980ef2eac60038be5a9a6eb3fa6d348c6b4793cc7f2", func := "attest/attestlaw21.SimplexDecides", spec := "simplexDecides", unfollowed := true, recurses := true, apart := false }
def SimplexDecidesSaid : Prop := simplexDecidesRow.holds Tryz.pinned (OpenSpec.ofChange simplexDecidesSpec)

/-- ITS FALSE NEIGHBOUR: 'it returns false'. Refute it at one input. -/
def simplexDecidesWrong : ChangeSpec := { name := "simplexDecides", fn := fun _ => fun
  | [d1, d2] => { results := [.lit (.bool false)], args := [d1, d2] }
  | _ => none }
def SimplexDecidesWrongFalsely : Prop := simplexDecidesRow.holds Tryz.pinned (OpenSpec.ofChange simplexDecidesWrong)

/-- 'attestlaw21.SimplexFinds': WHATEVER THE INPUT: true; the input reads as it did. -/
def simplexFindsSpec : ChangeSpec := { name := "simplexFinds", fn := fun _ => fun
  | [d1, d2, d3] => { results := [.lit (.bool true)], args := [d1, d2, d3] }
  | _ => none }
def simplexFindsRow : OpenClaim := { program := "ythpaifdfafjlcaagreat", sum := "1a685db1a61965a355e0f980ef2eac60038be5a9a6eb3fa6d348c6b4793cc7f2", func := "attest/attestlaw21.SimplexFinds", spec := "simplexFinds", unfollowed := true, recurses := true, apart := false }
def SimplexFindsSaid : Prop := simplexFindsRow.holds Tryz.pinned (OpenSpec.ofChange simplexFindsSpec)

/-- ITS FALSE NEIGHBOUR: 'it returns false'. Refute it at one input. -/
def simplexFindsWrong : ChangeSpec := { name := "simplexFinds", fn := fun _ => fun
  | [d1, d2, d3] => { results := [.lit (.bool false)], args := [d1, d2, d3] }
  | _ => none }
def SimplexFindsWrongFalsely : Prop := simplexFindsRow.holds Tryz.pinned (OpenSpec.ofChange simplexFindsWrong)

/-- 'attestlaw21.SimplexNarrows': WHATEVER THE INPUT: true; the input reads as it did. -/
def simplexNarrowsSpec : ChangeSpec := { name := "simplexNarrows", fn := fun _ => fun
  | [d1, d2, d3] => { results := [.lit (.bool true)], args := [d1, d2, d3] }
  | _ => none }
def simplexNarrowsRow : OpenClaim := { program := "ythpaifdfafjlcaagreat", sum := "1a685db1a61965a355e0f980ef2eac60038be5a9a6eb3fa6d348c6b4793cc7f2", func := "attest/attestlaw21.SimplexNarrows", spec := "simplexNarrows", unfollowed := true, recurses := true, apart := false }
def SimplexNarrowsSaid : Prop := simplexNarrowsRow.holds Tryz.pinned (OpenSpec.ofChange simplexNarrowsSpec)

/-- ITS FALSE NEIGHBOUR: 'it returns false'. Refute it at one input. -/
def simplexNarrowsWrong : ChangeSpec := { name := "simplexNarrows", fn := fun _ => fun
  | [d1, d2, d3] => { results := [.lit (.bool false)], args := [d1, d2, d3] }
  | _ => none }
def SimplexNarrowsWrongFalsely : Prop := simplexNarrowsRow.holds Tryz.pinned (OpenSpec.ofChange simplexNarrowsWrong)

/-- 'attestlaw21.SimplexAgain': WHATEVER THE INPUT: true; the input reads as it did. -/
def simplexAgainSpec : ChangeSpec := { name := "simplexAgain", fn := fun _ => fun
  | [d1, d2, d3] => { results := [.lit (.bool true)], args := [d1, d2, d3] }
  | _ => none }
def simplexAgainRow : OpenClaim := { program := "ythpaifdfafjlcaagreat", sum := "1a685db1a61965a355e0f980ef2eac60038be5a9a6eb3fa6d348c6b4793cc7f2", func := "attest/attestlaw21.SimplexAgain", spec := "simplexAgain", unfollowed := true, recurses := true, apart := false }
def SimplexAgainSaid : Prop := simplexAgainRow.holds Tryz.pinned (OpenSpec.ofChange simplexAgainSpec)

/-- ITS FALSE NEIGHBOUR: 'it returns false'. Refute it at one input. -/
def simplexAgainWrong : ChangeSpec := { name := "simplexAgain", fn := fun _ => fun
  | [d1, d2, d3] => { results := [.lit (.bool false)], args := [d1, d2, d3] }
  | _ => none }
def SimplexAgainWrongFalsely : Prop := simplexAgainRow.holds Tryz.pinned (OpenSpec.ofChange simplexAgainWrong)

/- THE SECOND FORM. 'bulk': how many values and letters a reading holds, each counted each time it is reached (what is shared counts as often as it is met; a slice's spare places count too). A statement '..UptoSaid' is the law's where the arguments, and the package variables that the reading takes, are together of bulk at most 1048576: NARROWER than '..Said'. Prove '..Said' where nothing that the law and all that it calls make is longer than what came in: it says more and counts as full. Else prove '..UptoSaid'. A law counts once. -/
mutual
def uptoBulk {H : Type} : DataW H → Nat
  | .lit (.string bytes) => bytes.length + 1
  | .lit _ => 1
  | .nil => 1
  | .ptr d => uptoBulk d + 1
  | .slice elems spare => uptoBulkAll elems + uptoBulkAll spare + 1
  | .agg parts => uptoBulkAll parts + 1
  | .iface _ d => uptoBulk d + 1
  | .map entries => uptoBulkEntries entries + 1
  | .held _ => 1
def uptoBulkAll {H : Type} : List (DataW H) → Nat
  | [] => 0
  | d :: r => uptoBulk d + uptoBulkAll r
def uptoBulkEntries {H : Type} : List (Lit × DataW H) → Nat
  | [] => 0
  | x :: r => uptoBulkEntry x + uptoBulkEntries r
def uptoBulkEntry {H : Type} : Lit × DataW H → Nat
  | (.string bytes, d) => bytes.length + uptoBulk d + 1
  | (_, d) => uptoBulk d + 1
 end
def uptoSmall : (H : Type) → List (DataW H) → Bool := fun _ ds => decide (uptoBulkAll ds ≤ 1048576)
def OpenSpec.upto (s : _root_.Go.ChangeSpec) : _root_.Go.OpenSpec := { _root_.Go.OpenSpec.ofChange s with cond := some uptoSmall }

/-- 'attestlaw21.SimplexChecks', WHERE WHAT IT READS IS OF BULK AT MOST 1048576: true; the input reads as it did. -/
def simplexChecksUptoRow : OpenClaim := { program := "ythpaifdfafjlcaagreat", sum := "1a685db1a61965a355e0f980ef2eac60038be5a9a6eb3fa6d348c6b4793cc7f2", func := "attest/attestlaw21.SimplexChecks", spec := "simplexChecks", unfollowed := true, recurses := true, apart := false, narrowed := true }
def SimplexChecksUptoSaid : Prop := simplexChecksUptoRow.holds Tryz.pinned (OpenSpec.upto simplexChecksSpec)

/-- 'attestlaw21.SimplexDecides', WHERE WHAT IT READS IS OF BULK AT MOST 1048576: true; the input reads as it did. -/
def simplexDecidesUptoRow : OpenClaim := { program := "ythpaifdfafjlcaagreat", sum := "1a685db1a61965a355e0f980ef2eac60038be5a9a6eb3fa6d348c6b4793cc7f2", func := "attest/attestlaw21.SimplexDecides", spec := "simplexDecides", unfollowed := true, recurses := true, apart := false, narrowed := true }
def SimplexDecidesUptoSaid : Prop := simplexDecidesUptoRow.holds Tryz.pinned (OpenSpec.upto simplexDecidesSpec)

/-- 'attestlaw21.SimplexFinds', WHERE WHAT IT READS IS OF BULK AT MOST 1048576: true; the input reads as it did. -/
def simplexFindsUptoRow : OpenClaim := { program := "ythpaifdfafjlcaagreat", sum := "1a685db1a61965a355e0f980ef2eac60038be5a9a6eb3fa6d348c6b4793cc7f2", func := "attest/attestlaw21.SimplexFinds", spec := "simplexFinds", unfollowed := true, recurses := true, apart := false, narrowed := true }
def SimplexFindsUptoSaid : Prop := simplexFindsUptoRow.holds Tryz.pinned (OpenSpec.upto simplexFindsSpec)

/-- 'attestlaw21.SimplexNarrows', WHERE WHAT IT READS IS OF BULK AT MOST 1048576: true; the input reads as it did. -/
def simplexNarrowsUptoRow : OpenClaim := { program := "ythpaifdfafjlcaagreat", sum := "1a685db1a61965a355e0f980ef2eac60038be5a9a6eb3fa6d348c6b4793cc7f2", func := "attest/attestlaw21.SimplexNarrows", spec := "simplexNarrows", unfollowed := true, recurses := true, apart := false, narrowed := true }
def SimplexNarrowsUptoSaid : Prop := simplexNarrowsUptoRow.holds Tryz.pinned (OpenSpec.upto simplexNarrowsSpec)

/-- 'attestlaw21.SimplexAgain', WHERE WHAT IT READS IS OF BULK AT MOST 1048576: true; the input reads as it did. -/
def simplexAgainUptoRow : OpenClaim := { program := "ythpaifdfafjlcaagreat", sum := "1a685db1a61965a355e0f980ef2eac60038be5a9a6eb3fa6d348c6b4793cc7f2", func := "attest/attestlaw21.SimplexAgain", spec := "simplexAgain", unfollowed := true, recurses := true, apart := false, narrowed := true }
def SimplexAgainUptoSaid : Prop := simplexAgainUptoRow.holds Tryz.pinned (OpenSpec.upto simplexAgainSpec)

end Rows
end Go.Proofs.YthpaifdfafjlcaaGreat
