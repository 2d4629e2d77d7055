/-
  No cell of these rows narrows 'for every input' (looked for: loops, veiled, ifaces, maps, wideKeys, modest, calm, conditions, laid).
  DERIVED. THE GIVEN ROWS OF THIS SEAT. 6 by the template 'for every input the law returns true; each argument reads behind the call as it read before'; 0 by the template 'total and deterministic' (their statements: YtjkebebkadpnjaaTotals.lean).
  GIVEN WITH THE SEED: the statements are not yours to turn. If you find one false, say at which input.
  Laid BY PROGRAM, IN A SANDBOX (cutbox-rows.mjs): the forced cells as the released guide's own fill.sh prints them over the translation 2561f15c551a1fcf… (all of the seat's roots in one cut). By AI agents, Wed Nov 11 2026. No macro, syntax, notation, axiom, sorry.
-/
import Derived.Test.YtjkebebkadpnjaaChecked
import GoSem.Claim
import GoSem.ClaimJoined
import GoSem.ClaimMapViews
import Derived.JoinedTies
import Derived.KernelRfl
namespace Go.Proofs.Ytjkebebkadpnjaa
/- THE CELL 'sum', in the pinned program and in every row, IS THE sha256 OF THE DUMP (.gsa) THAT YtjkebebkadpnjaaProg.lean LOADS. Nothing in Lean hashes anything: it is a label: what it is worth is what the hold of that sum in a sandbox is worth. -/
noncomputable def Try.pinned : Pinned := { name := "ytjkebebkadpnjaa", sum := "2561f15c551a1fcf0ffb93138be9417627d99f85086ba6c28bae0728fd95a0f3", checked := Try.checked }
namespace Rows
def none {H : Type} : Left H := { results := [], args := [] }

/-- 'attestlaw02.LimbWords': WHATEVER THE INPUT: true; the input reads as it did. -/
def limbWordsSpec : ChangeSpec := { name := "limbWords", fn := fun _ => fun
  | [d1, d2] => { results := [.lit (.bool true)], args := [d1, d2] }
  | _ => none }
def limbWordsRow : OpenClaim := { program := "ytjkebebkadpnjaa", sum := "2561f15c551a1fcf0ffb93138be9417627d99f85086ba6c28bae0728fd95a0f3", func := "attest/attestlaw02.LimbWords", spec := "limbWords", apart := false }
def LimbWordsSaid : Prop := limbWordsRow.holds Try.pinned (OpenSpec.ofChange limbWordsSpec)

/-- ITS FALSE NEIGHBOUR: 'it returns false'. Refute it at one input. -/
def limbWordsWrong : ChangeSpec := { name := "limbWords", fn := fun _ => fun
  | [d1, d2] => { results := [.lit (.bool false)], args := [d1, d2] }
  | _ => none }
def LimbWordsWrongFalsely : Prop := limbWordsRow.holds Try.pinned (OpenSpec.ofChange limbWordsWrong)

/-- 'attestlaw02.LimbSums': WHATEVER THE INPUT: true; the input reads as it did. -/
def limbSumsSpec : ChangeSpec := { name := "limbSums", fn := fun _ => fun
  | [d1, d2] => { results := [.lit (.bool true)], args := [d1, d2] }
  | _ => none }
def limbSumsRow : OpenClaim := { program := "ytjkebebkadpnjaa", sum := "2561f15c551a1fcf0ffb93138be9417627d99f85086ba6c28bae0728fd95a0f3", func := "attest/attestlaw02.LimbSums", spec := "limbSums", apart := false }
def LimbSumsSaid : Prop := limbSumsRow.holds Try.pinned (OpenSpec.ofChange limbSumsSpec)

/-- ITS FALSE NEIGHBOUR: 'it returns false'. Refute it at one input. -/
def limbSumsWrong : ChangeSpec := { name := "limbSums", fn := fun _ => fun
  | [d1, d2] => { results := [.lit (.bool false)], args := [d1, d2] }
  | _ => none }
def LimbSumsWrongFalsely : Prop := limbSumsRow.holds Try.pinned (OpenSpec.ofChange limbSumsWrong)

/-- 'attestlaw02.LimbBytes': WHATEVER THE INPUT: true; the input reads as it did. -/
def limbBytesSpec : ChangeSpec := { name := "limbBytes", fn := fun _ => fun
  | [d1, d2] => { results := [.lit (.bool true)], args := [d1, d2] }
  | _ => none }
def limbBytesRow : OpenClaim := { program := "ytjkebebkadpnjaa", sum := "2561f15c551a1fcf0ffb93138be9417627d99f85086ba6c28bae0728fd95a0f3", func := "attest/attestlaw02.LimbBytes", spec := "limbBytes", apart := false }
def LimbBytesSaid : Prop := limbBytesRow.holds Try.pinned (OpenSpec.ofChange limbBytesSpec)

/-- ITS FALSE NEIGHBOUR: 'it returns false'. Refute it at one input. -/
def limbBytesWrong : ChangeSpec := { name := "limbBytes", fn := fun _ => fun
  | [d1, d2] => { results := [.lit (.bool false)], args := [d1, d2] }
  | _ => none }
def LimbBytesWrongFalsely : Prop := limbBytesRow.holds Try.pinned (OpenSpec.ofChange limbBytesWrong)

/-- 'attestlaw02.LimbShifts': WHATEVER THE INPUT: true; the input reads as it did. -/
def limbShiftsSpec : ChangeSpec := { name := "limbShifts", fn := fun _ => fun
  | [d1, d2] => { results := [.lit (.bool true)], args := [d1, d2] }
  | _ => none }
def limbShiftsRow : OpenClaim := { program := "ytjkebebkadpnjaa", sum := "2561f15c551a1fcf0ffb93138be9417627d99f85086ba6c28bae0728fd95a0f3", func := "attest/attestlaw02.LimbShifts", spec := "limbShifts", apart := false }
def LimbShiftsSaid : Prop := limbShiftsRow.holds Try.pinned (OpenSpec.ofChange limbShiftsSpec)

/-- ITS FALSE NEIGHBOUR: 'it returns false'. Refute it at one input. -/
def limbShiftsWrong : ChangeSpec := { name := "limbShifts", fn := fun _ => fun
  | [d1, d2] => { results := [.lit (.bool false)], args := [d1, d2] }
  | _ => none }
def LimbShiftsWrongFalsely : Prop := limbShiftsRow.holds Try.pinned (OpenSpec.ofChange limbShiftsWrong)

/-- 'attestlaw02.LimbLaws': WHATEVER THE INPUT: true; the input reads as it did. -/
def limbLawsSpec : ChangeSpec := { name := "limbLaws", fn := fun _ => fun
  | [d1, d2, d3] => { results := [.lit (.bool true)], args := [d1, d2, d3] }
  | _ => none }
def limbLawsRow : OpenClaim := { program := "ytjkebebkadpnjaa", sum := "2561f15c551a1fcf0ffb93138be9417627d99f85086ba6c28bae0728fd95a0f3", func := "attest/attestlaw02.LimbLaws", spec := "limbLaws", apart := false }
def LimbLawsSaid : Prop := limbLawsRow.holds Try.pinned (OpenSpec.ofChange limbLawsSpec)

/-- ITS FALSE NEIGHBOUR: 'it returns false'. Refute it at one input. -/
def limbLawsWrong : ChangeSpec := { name := "limbLaws", fn := fun _ => fun
  | [d1, d2, d3] => { results := [.lit (.bool false)], args := [d1, d2, d3] }
  | _ => none }
def LimbLawsWrongFalsely : Prop := limbLawsRow.holds Try.pinned (OpenSpec.ofChange limbLawsWrong)

/-- 'attestlaw02.LimbLends': WHATEVER THE INPUT: true; the input reads as it did. -/
def limbLendsSpec : ChangeSpec := { name := "limbLends", fn := fun _ => fun
  | [d1, d2, d3] => { results := [.lit (.bool true)], args := [d1, d2, d3] }
  | _ => none }
def limbLendsRow : OpenClaim := { program := "ytjkebebkadpnjaa", sum := "2561f15c551a1fcf0ffb93138be9417627d99f85086ba6c28bae0728fd95a0f3", func := "attest/attestlaw02.LimbLends", spec := "limbLends", apart := false }
def LimbLendsSaid : Prop := limbLendsRow.holds Try.pinned (OpenSpec.ofChange limbLendsSpec)

/-- ITS FALSE NEIGHBOUR: 'it returns false'. Refute it at one input. -/
def limbLendsWrong : ChangeSpec := { name := "limbLends", fn := fun _ => fun
  | [d1, d2, d3] => { results := [.lit (.bool false)], args := [d1, d2, d3] }
  | _ => none }
def LimbLendsWrongFalsely : Prop := limbLendsRow.holds Try.pinned (OpenSpec.ofChange limbLendsWrong)

/- THE SECOND FORM. 'bulk': how many values and letters a reading holds, each counted each time it is reached (what is shared counts as often as it is met; a slice's spare places count too). A statement '..UptoSaid' is the law's where the arguments, and the package variables that the reading takes, are together of bulk at most 1048576: NARROWER than '..Said'. Prove '..Said' where nothing that the law and all that it calls make is longer than what came in: it says more and counts as full. Else prove '..UptoSaid'. A law counts once. -/
mutual
def uptoBulk {H : Type} : DataW H → Nat
  | .lit (.string bytes) => bytes.length + 1
  | .lit _ => 1
  | .nil => 1
  | .ptr d => uptoBulk d + 1
  | .slice elems spare => uptoBulkAll elems + uptoBulkAll spare + 1
  | .agg parts => uptoBulkAll parts + 1
  | .iface _ d => uptoBulk d + 1
  | .map entries => uptoBulkEntries entries + 1
  | .held _ => 1
def uptoBulkAll {H : Type} : List (DataW H) → Nat
  | [] => 0
  | d :: r => uptoBulk d + uptoBulkAll r
def uptoBulkEntries {H : Type} : List (Lit × DataW H) → Nat
  | [] => 0
  | x :: r => uptoBulkEntry x + uptoBulkEntries r
def uptoBulkEntry {H : Type} : Lit × DataW H → Nat
  | (.string bytes, d) => bytes.length + uptoBulk d + 1
  | (_, d) => uptoBulk d + 1
 end
def uptoSmall : (H : Type) → List (DataW H) → Bool := fun _ ds => decide (uptoBulkAll ds ≤ 1048576)
def OpenSpec.upto (s : _root_.Go.ChangeSpec) : _root_.Go.OpenSpec := { _root_.Go.OpenSpec.ofChange s with cond := some uptoSmall }

/-- 'attestlaw02.LimbWords', WHERE WHAT IT READS IS OF BULK AT MOST 1048576: true; the input reads as it did. -/
def limbWordsUptoRow : OpenClaim := { program := "ytjkebebkadpnjaa", sum := "2561f15c551a1fcf0ffb93138be9417627d99f85086ba6c28bae0728fd95a0f3", func := "attest/attestlaw02.LimbWords", spec := "limbWords", apart := false, narrowed := true }
def LimbWordsUptoSaid : Prop := limbWordsUptoRow.holds Try.pinned (OpenSpec.upto limbWordsSpec)

/-- 'attestlaw02.LimbSums', WHERE WHAT IT READS IS OF BULK AT MOST 1048576: true; the input reads as it did. -/
def limbSumsUptoRow : OpenClaim := { program := "ytjkebebkadpnjaa", sum := "2561f15c551a1fcf0ffb93138be9417627d99f85086ba6c28bae0728fd95a0f3", func := "attest/attestlaw02.LimbSums", spec := "limbSums", apart := false, narrowed := true }
def LimbSumsUptoSaid : Prop := limbSumsUptoRow.holds Try.pinned (OpenSpec.upto limbSumsSpec)

/-- 'attestlaw02.LimbBytes', WHERE WHAT IT READS IS OF BULK AT MOST 1048576: true; the input reads as it did. -/
def limbBytesUptoRow : OpenClaim := { program := "ytjkebebkadpnjaa", sum := "2561f15c551a1fcf0ffb93138be9417627d99f85086ba6c28bae0728fd95a0f3", func := "attest/attestlaw02.LimbBytes", spec := "limbBytes", apart := false, narrowed := true }
def LimbBytesUptoSaid : Prop := limbBytesUptoRow.holds Try.pinned (OpenSpec.upto limbBytesSpec)

/-- 'attestlaw02.LimbShifts', WHERE WHAT IT READS IS OF BULK AT MOST 1048576: true; the input reads as it did. -/
def limbShiftsUptoRow : OpenClaim := { program := "ytjkebebkadpnjaa", sum := "2561f15c551a1fcf0ffb93138be9417627d99f85086ba6c28bae0728fd95a0f3", func := "attest/attestlaw02.LimbShifts", spec := "limbShifts", apart := false, narrowed := true }
def LimbShiftsUptoSaid : Prop := limbShiftsUptoRow.holds Try.pinned (OpenSpec.upto limbShiftsSpec)

/-- 'attestlaw02.LimbLaws', WHERE WHAT IT READS IS OF BULK AT MOST 1048576: true; the input reads as it did. -/
def limbLawsUptoRow : OpenClaim := { program := "ytjkebebkadpnjaa", sum := "2561f15c551a1fcf0ffb93138be9417627d99f85086ba6c28bae0728fd95a0f3", func := "attest/attestlaw02.LimbLaws", spec := "limbLaws", apart := false, narrowed := true }
def LimbLawsUptoSaid : Prop := limbLawsUptoRow.holds Try.pinned (OpenSpec.upto limbLawsSpec)

/-- 'attestlaw02.LimbLends', WHERE WHAT IT READS IS OF BULK AT MOST 1048576: true; the input reads as it did. -/
def limbLendsUptoRow : OpenClaim := { program := "ytjkebebkadpnjaa", sum := "2561f15c551a1fcf0ffb93138be9417627d99f85086ba6c28bae0728fd95a0f3", func := "attest/attestlaw02.LimbLends", spec := "limbLends", apart := false, narrowed := true }
def LimbLendsUptoSaid : Prop := limbLendsUptoRow.holds Try.pinned (OpenSpec.upto limbLendsSpec)

end Rows
end Go.Proofs.Ytjkebebkadpnjaa
