/-
  No cell of these rows narrows 'for every input' (looked for: loops, veiled, ifaces, maps, wideKeys, modest, calm, conditions, laid).
  DERIVED. THE GIVEN ROWS OF THIS SEAT. 9 by the template 'for every input the law returns true; each argument reads behind the call as it read before'; 0 by the template 'total and deterministic' (their statements: YtjnbhinjpinkaaaTotals.lean).
  GIVEN WITH THE SEED: the statements are not yours to turn. If you find one false, say at which input.
  Laid BY PROGRAM, IN A SANDBOX (cutbox-rows.mjs): the forced cells as the released guide's own fill.sh prints them over the translation a48ad19ae1466988… (all of the seat's roots in one cut). By AI agents, Wed Nov 11 2026. No macro, syntax, notation, axiom, sorry.
-/
import Derived.Test.YtjnbhinjpinkaaaChecked
import GoSem.Claim
import GoSem.ClaimJoined
import GoSem.ClaimMapViews
import Derived.JoinedTies
import Derived.KernelRfl
namespace Go.Proofs.Ytjnbhinjpinkaaa
/- THE CELL 'sum', in the pinned program and in every row, IS THE sha256 OF THE DUMP (.gsa) THAT YtjnbhinjpinkaaaProg.lean LOADS. Nothing in Lean hashes anything: it is a label: what it is worth is what the hold of that sum in a sandbox is worth. -/
noncomputable def Try.pinned : Pinned := { name := "ytjnbhinjpinkaaa", sum := "a48ad19ae1466988cd0fe61df1c56e64dfd6911b58dd88718c153d74c91a2ae4", checked := Try.checked }
namespace Rows
def none {H : Type} : Left H := { results := [], args := [] }

/-- 'attestlaw03.NatPows': WHATEVER THE INPUT: true; the input reads as it did. -/
def natPowsSpec : ChangeSpec := { name := "natPows", fn := fun _ => fun
  | [d1, d2] => { results := [.lit (.bool true)], args := [d1, d2] }
  | _ => none }
def natPowsRow : OpenClaim := { program := "ytjnbhinjpinkaaa", sum := "a48ad19ae1466988cd0fe61df1c56e64dfd6911b58dd88718c153d74c91a2ae4", func := "attest/attestlaw03.NatPows", spec := "natPows", apart := false }
def NatPowsSaid : Prop := natPowsRow.holds Try.pinned (OpenSpec.ofChange natPowsSpec)

/-- ITS FALSE NEIGHBOUR: 'it returns false'. Refute it at one input. -/
def natPowsWrong : ChangeSpec := { name := "natPows", fn := fun _ => fun
  | [d1, d2] => { results := [.lit (.bool false)], args := [d1, d2] }
  | _ => none }
def NatPowsWrongFalsely : Prop := natPowsRow.holds Try.pinned (OpenSpec.ofChange natPowsWrong)

/-- 'attestlaw05.RatMakes': WHATEVER THE INPUT: true; the input reads as it did. -/
def ratMakesSpec : ChangeSpec := { name := "ratMakes", fn := fun _ => fun
  | [d1, d2, d3] => { results := [.lit (.bool true)], args := [d1, d2, d3] }
  | _ => none }
def ratMakesRow : OpenClaim := { program := "ytjnbhinjpinkaaa", sum := "a48ad19ae1466988cd0fe61df1c56e64dfd6911b58dd88718c153d74c91a2ae4", func := "attest/attestlaw05.RatMakes", spec := "ratMakes", apart := false }
def RatMakesSaid : Prop := ratMakesRow.holds Try.pinned (OpenSpec.ofChange ratMakesSpec)

/-- ITS FALSE NEIGHBOUR: 'it returns false'. Refute it at one input. -/
def ratMakesWrong : ChangeSpec := { name := "ratMakes", fn := fun _ => fun
  | [d1, d2, d3] => { results := [.lit (.bool false)], args := [d1, d2, d3] }
  | _ => none }
def RatMakesWrongFalsely : Prop := ratMakesRow.holds Try.pinned (OpenSpec.ofChange ratMakesWrong)

/-- 'attestlaw05.RatDivs': WHATEVER THE INPUT: true; the input reads as it did. -/
def ratDivsSpec : ChangeSpec := { name := "ratDivs", fn := fun _ => fun
  | [d1, d2] => { results := [.lit (.bool true)], args := [d1, d2] }
  | _ => none }
def ratDivsRow : OpenClaim := { program := "ytjnbhinjpinkaaa", sum := "a48ad19ae1466988cd0fe61df1c56e64dfd6911b58dd88718c153d74c91a2ae4", func := "attest/attestlaw05.RatDivs", spec := "ratDivs", apart := false }
def RatDivsSaid : Prop := ratDivsRow.holds Try.pinned (OpenSpec.ofChange ratDivsSpec)

/-- ITS FALSE NEIGHBOUR: 'it returns false'. Refute it at one input. -/
def ratDivsWrong : ChangeSpec := { name := "ratDivs", fn := fun _ => fun
  | [d1, d2] => { results := [.lit (.bool false)], args := [d1, d2] }
  | _ => none }
def RatDivsWrongFalsely : Prop := ratDivsRow.holds Try.pinned (OpenSpec.ofChange ratDivsWrong)

/-- 'attestlaw05.RatField': WHATEVER THE INPUT: true; the input reads as it did. -/
def ratFieldSpec : ChangeSpec := { name := "ratField", fn := fun _ => fun
  | [d1, d2, d3] => { results := [.lit (.bool true)], args := [d1, d2, d3] }
  | _ => none }
def ratFieldRow : OpenClaim := { program := "ytjnbhinjpinkaaa", sum := "a48ad19ae1466988cd0fe61df1c56e64dfd6911b58dd88718c153d74c91a2ae4", func := "attest/attestlaw05.RatField", spec := "ratField", apart := false }
def RatFieldSaid : Prop := ratFieldRow.holds Try.pinned (OpenSpec.ofChange ratFieldSpec)

/-- ITS FALSE NEIGHBOUR: 'it returns false'. Refute it at one input. -/
def ratFieldWrong : ChangeSpec := { name := "ratField", fn := fun _ => fun
  | [d1, d2, d3] => { results := [.lit (.bool false)], args := [d1, d2, d3] }
  | _ => none }
def RatFieldWrongFalsely : Prop := ratFieldRow.holds Try.pinned (OpenSpec.ofChange ratFieldWrong)

/-- 'attestlaw05.RatSums': WHATEVER THE INPUT: true; the input reads as it did. -/
def ratSumsSpec : ChangeSpec := { name := "ratSums", fn := fun _ => fun
  | [d1, d2] => { results := [.lit (.bool true)], args := [d1, d2] }
  | _ => none }
def ratSumsRow : OpenClaim := { program := "ytjnbhinjpinkaaa", sum := "a48ad19ae1466988cd0fe61df1c56e64dfd6911b58dd88718c153d74c91a2ae4", func := "attest/attestlaw05.RatSums", spec := "ratSums", apart := false }
def RatSumsSaid : Prop := ratSumsRow.holds Try.pinned (OpenSpec.ofChange ratSumsSpec)

/-- ITS FALSE NEIGHBOUR: 'it returns false'. Refute it at one input. -/
def ratSumsWrong : ChangeSpec := { name := "ratSums", fn := fun _ => fun
  | [d1, d2] => { results := [.lit (.bool false)], args := [d1, d2] }
  | _ => none }
def RatSumsWrongFalsely : Prop := ratSumsRow.holds Try.pinned (OpenSpec.ofChange ratSumsWrong)

/-- 'attestlaw05.RatKeys': WHATEVER THE INPUT: true; the input reads as it did. -/
def ratKeysSpec : ChangeSpec := { name := "ratKeys", fn := fun _ => fun
  | [d1, d2] => { results := [.lit (.bool true)], args := [d1, d2] }
  | _ => none }
def ratKeysRow : OpenClaim := { program := "ytjnbhinjpinkaaa", sum := "a48ad19ae1466988cd0fe61df1c56e64dfd6911b58dd88718c153d74c91a2ae4", func := "attest/attestlaw05.RatKeys", spec := "ratKeys", apart := false }
def RatKeysSaid : Prop := ratKeysRow.holds Try.pinned (OpenSpec.ofChange ratKeysSpec)

/-- ITS FALSE NEIGHBOUR: 'it returns false'. Refute it at one input. -/
def ratKeysWrong : ChangeSpec := { name := "ratKeys", fn := fun _ => fun
  | [d1, d2] => { results := [.lit (.bool false)], args := [d1, d2] }
  | _ => none }
def RatKeysWrongFalsely : Prop := ratKeysRow.holds Try.pinned (OpenSpec.ofChange ratKeysWrong)

/-- 'attestlaw05.RatOrder': WHATEVER THE INPUT: true; the input reads as it did. -/
def ratOrderSpec : ChangeSpec := { name := "ratOrder", fn := fun _ => fun
  | [d1, d2] => { results := [.lit (.bool true)], args := [d1, d2] }
  | _ => none }
def ratOrderRow : OpenClaim := { program := "ytjnbhinjpinkaaa", sum := "a48ad19ae1466988cd0fe61df1c56e64dfd6911b58dd88718c153d74c91a2ae4", func := "attest/attestlaw05.RatOrder", spec := "ratOrder", apart := false }
def RatOrderSaid : Prop := ratOrderRow.holds Try.pinned (OpenSpec.ofChange ratOrderSpec)

/-- ITS FALSE NEIGHBOUR: 'it returns false'. Refute it at one input. -/
def ratOrderWrong : ChangeSpec := { name := "ratOrder", fn := fun _ => fun
  | [d1, d2] => { results := [.lit (.bool false)], args := [d1, d2] }
  | _ => none }
def RatOrderWrongFalsely : Prop := ratOrderRow.holds Try.pinned (OpenSpec.ofChange ratOrderWrong)

/-- 'attestlaw05.RatInts': WHATEVER THE INPUT: true; the input reads as it did. -/
def ratIntsSpec : ChangeSpec := { name := "ratInts", fn := fun _ => fun
  | [d1, d2] => { results := [.lit (.bool true)], args := [d1, d2] }
  | _ => none }
def ratIntsRow : OpenClaim := { program := "ytjnbhinjpinkaaa", sum := "a48ad19ae1466988cd0fe61df1c56e64dfd6911b58dd88718c153d74c91a2ae4", func := "attest/attestlaw05.RatInts", spec := "ratInts", apart := false }
def RatIntsSaid : Prop := ratIntsRow.holds Try.pinned (OpenSpec.ofChange ratIntsSpec)

/-- ITS FALSE NEIGHBOUR: 'it returns false'. Refute it at one input. -/
def ratIntsWrong : ChangeSpec := { name := "ratInts", fn := fun _ => fun
  | [d1, d2] => { results := [.lit (.bool false)], args := [d1, d2] }
  | _ => none }
def RatIntsWrongFalsely : Prop := ratIntsRow.holds Try.pinned (OpenSpec.ofChange ratIntsWrong)

/-- 'attestlaw07.DeltaOrder': WHATEVER THE INPUT: true; the input reads as it did. -/
def deltaOrderSpec : ChangeSpec := { name := "deltaOrder", fn := fun _ => fun
  | [d1, d2] => { results := [.lit (.bool true)], args := [d1, d2] }
  | _ => none }
def deltaOrderRow : OpenClaim := { program := "ytjnbhinjpinkaaa", sum := "a48ad19ae1466988cd0fe61df1c56e64dfd6911b58dd88718c153d74c91a2ae4", func := "attest/attestlaw07.DeltaOrder", spec := "deltaOrder", apart := false }
def DeltaOrderSaid : Prop := deltaOrderRow.holds Try.pinned (OpenSpec.ofChange deltaOrderSpec)

/-- ITS FALSE NEIGHBOUR: 'it returns false'. Refute it at one input. -/
def deltaOrderWrong : ChangeSpec := { name := "deltaOrder", fn := fun _ => fun
  | [d1, d2] => { results := [.lit (.bool false)], args := [d1, d2] }
  | _ => none }
def DeltaOrderWrongFalsely : Prop := deltaOrderRow.holds Try.pinned (OpenSpec.ofChange deltaOrderWrong)

/- THE SECOND FORM. 'bulk': how many values and letters a reading holds, each counted each time it is reached (what is shared counts as often as it is met; a slice's spare places count too). A statement '..UptoSaid' is the law's where the arguments, and the package variables that the reading takes, are together of bulk at most 1048576: NARROWER than '..Said'. Prove '..Said' where nothing that the law and all that it calls make is longer than what came in: it says more and counts as full. Else prove '..UptoSaid'. A law counts once. -/
mutual
def uptoBulk {H : Type} : DataW H → Nat
  | .lit (.string bytes) => bytes.length + 1
  | .lit _ => 1
  | .nil => 1
  | .ptr d => uptoBulk d + 1
  | .slice elems spare => uptoBulkAll elems + uptoBulkAll spare + 1
  | .agg parts => uptoBulkAll parts + 1
  | .iface _ d => uptoBulk d + 1
  | .map entries => uptoBulkEntries entries + 1
  | .held _ => 1
def uptoBulkAll {H : Type} : List (DataW H) → Nat
  | [] => 0
  | d :: r => uptoBulk d + uptoBulkAll r
def uptoBulkEntries {H : Type} : List (Lit × DataW H) → Nat
  | [] => 0
  | x :: r => uptoBulkEntry x + uptoBulkEntries r
def uptoBulkEntry {H : Type} : Lit × DataW H → Nat
  | (.string bytes, d) => bytes.length + uptoBulk d + 1
  | (_, d) => uptoBulk d + 1
 end
def uptoSmall : (H : Type) → List (DataW H) → Bool := fun _ ds => decide (uptoBulkAll ds ≤ 1048576)
def OpenSpec.upto (s : _root_.Go.ChangeSpec) : _root_.Go.OpenSpec := { _root_.Go.OpenSpec.ofChange s with cond := some uptoSmall }

/-- 'attestlaw03.NatPows', WHERE WHAT IT READS IS OF BULK AT MOST 1048576: true; the input reads as it did. -/
def natPowsUptoRow : OpenClaim := { program := "ytjnbhinjpinkaaa", sum := "a48ad19ae1466988cd0fe61df1c56e64dfd6911b58dd88718c153d74c91a2ae4", func := "attest/attestlaw03.NatPows", spec := "natPows", apart := false, narrowed := true }
def NatPowsUptoSaid : Prop := natPowsUptoRow.holds Try.pinned (OpenSpec.upto natPowsSpec)

/-- 'attestlaw05.RatMakes', WHERE WHAT IT READS IS OF BULK AT MOST 1048576: true; the input reads as it did. -/
def ratMakesUptoRow : OpenClaim := { program := "ytjnbhinjpinkaaa", sum := "a48ad19ae1466988cd0fe61df1c56e64dfd6911b58dd88718c153d74c91a2ae4", func := "attest/attestlaw05.RatMakes", spec := "ratMakes", apart := false, narrowed := true }
def RatMakesUptoSaid : Prop := ratMakesUptoRow.holds Try.pinned (OpenSpec.upto ratMakesSpec)

/-- 'attestlaw05.RatDivs', WHERE WHAT IT READS IS OF BULK AT MOST 1048576: true; the input reads as it did. -/
def ratDivsUptoRow : OpenClaim := { program := "ytjnbhinjpinkaaa", sum := "a48ad19ae1466988cd0fe61df1c56e64dfd6911b58dd88718c153d74c91a2ae4", func := "attest/attestlaw05.RatDivs", spec := "ratDivs", apart := false, narrowed := true }
def RatDivsUptoSaid : Prop := ratDivsUptoRow.holds Try.pinned (OpenSpec.upto ratDivsSpec)

/-- 'attestlaw05.RatField', WHERE WHAT IT READS IS OF BULK AT MOST 1048576: true; the input reads as it did. -/
def ratFieldUptoRow : OpenClaim := { program := "ytjnbhinjpinkaaa", sum := "a48ad19ae1466988cd0fe61df1c56e64dfd6911b58dd88718c153d74c91a2ae4", func := "attest/attestlaw05.RatField", spec := "ratField", apart := false, narrowed := true }
def RatFieldUptoSaid : Prop := ratFieldUptoRow.holds Try.pinned (OpenSpec.upto ratFieldSpec)

/-- 'attestlaw05.RatSums', WHERE WHAT IT READS IS OF BULK AT MOST 1048576: true; the input reads as it did. -/
def ratSumsUptoRow : OpenClaim := { program := "ytjnbhinjpinkaaa", sum := "a48ad19ae1466988cd0fe61df1c56e64dfd6911b58dd88718c153d74c91a2ae4", func := "attest/attestlaw05.RatSums", spec := "ratSums", apart := false, narrowed := true }
def RatSumsUptoSaid : Prop := ratSumsUptoRow.holds Try.pinned (OpenSpec.upto ratSumsSpec)

/-- 'attestlaw05.RatKeys', WHERE WHAT IT READS IS OF BULK AT MOST 1048576: true; the input reads as it did. -/
def ratKeysUptoRow : OpenClaim := { program := "ytjnbhinjpinkaaa", sum := "a48ad19ae1466988cd0fe61df1c56e64dfd6911b58dd88718c153d74c91a2ae4", func := "attest/attestlaw05.RatKeys", spec := "ratKeys", apart := false, narrowed := true }
def RatKeysUptoSaid : Prop := ratKeysUptoRow.holds Try.pinned (OpenSpec.upto ratKeysSpec)

/-- 'attestlaw05.RatOrder', WHERE WHAT IT READS IS OF BULK AT MOST 1048576: true; the input reads as it did. -/
def ratOrderUptoRow : OpenClaim := { program := "ytjnbhinjpinkaaa", sum := "a48ad19ae1466988cd0fe61df1c56e64dfd6911b58dd88718c153d74c91a2ae4", func := "attest/attestlaw05.RatOrder", spec := "ratOrder", apart := false, narrowed := true }
def RatOrderUptoSaid : Prop := ratOrderUptoRow.holds Try.pinned (OpenSpec.upto ratOrderSpec)

/-- 'attestlaw05.RatInts', WHERE WHAT IT READS IS OF BULK AT MOST 1048576: true; the input reads as it did. -/
def ratIntsUptoRow : OpenClaim := { program := "ytjnbhinjpinkaaa", sum := "a48ad19ae1466988cd0fe61df1c56e64dfd6911b58dd88718c153d74c91a2ae4", func := "attest/attestlaw05.RatInts", spec := "ratInts", apart := false, narrowed := true }
def RatIntsUptoSaid : Prop := ratIntsUptoRow.holds Try.pinned (OpenSpec.upto ratIntsSpec)

/-- 'attestlaw07.DeltaOrder', WHERE WHAT IT READS IS OF BULK AT MOST 1048576: true; the input reads as it did. -/
def deltaOrderUptoRow : OpenClaim := { program := "ytjnbhinjpinkaaa", sum := "a48ad19ae1466988cd0fe61df1c56e64dfd6911b58dd88718c153d74c91a2ae4", func := "attest/attestlaw07.DeltaOrder", spec := "deltaOrder", apart := false, narrowed := true }
def DeltaOrderUptoSaid : Prop := deltaOrderUptoRow.holds Try.pinned (OpenSpec.upto deltaOrderSpec)

end Rows
end Go.Proofs.Ytjnbhinjpinkaaa
