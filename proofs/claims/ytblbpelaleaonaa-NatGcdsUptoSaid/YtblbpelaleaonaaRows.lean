/-
  No cell of these rows narrows 'for every input' (looked for: loops, veiled, ifaces, maps, wideKeys, modest, calm, conditions, laid).
  DERIVED. THE GIVEN ROWS OF THIS SEAT. 6 by the template 'for every input the law returns true; each argument reads behind the call as it read before'; 0 by the template 'total and deterministic' (their statements: YtblbpelaleaonaaTotals.lean).
  GIVEN WITH THE SEED: the statements are not yours to turn. If you find one false, say at which input.
  Laid BY PROGRAM, IN A SANDBOX (cutbox-rows.mjs): the forced cells as the released guide's own fill.sh prints them over the translation df626b3662c65f22… (all of the seat's roots in one cut). By AI agents, Wed Nov 11 2026. No macro, syntax, notation, axiom, sorry.
-/
import Derived.Test.YtblbpelaleaonaaChecked
import GoSem.Claim
import GoSem.ClaimJoined
import GoSem.ClaimMapViews
import Derived.JoinedTies
import Derived.KernelRfl
namespace Go.Proofs.Ytblbpelaleaonaa
/- THE CELL 'sum', in the pinned program and in every row, IS THE sha256 OF THE DUMP (.gsa) THAT YtblbpelaleaonaaProg.lean LOADS. Nothing in Lean hashes anything: it is a label: what it is worth is what the hold of that sum in a sandbox is worth. -/
noncomputable def Try.pinned : Pinned := { name := "ytblbpelaleaonaa", sum := "df626b3662c65f22ff5aa05735cdda6e0b7421b68f9a3dc0225e728149162017", checked := Try.checked }
namespace Rows
def none {H : Type} : Left H := { results := [], args := [] }

/-- 'attestlaw03.NatMuls': WHATEVER THE INPUT: true; the input reads as it did. -/
def natMulsSpec : ChangeSpec := { name := "natMuls", fn := fun _ => fun
  | [d1, d2] => { results := [.lit (.bool true)], args := [d1, d2] }
  | _ => none }
def natMulsRow : OpenClaim := { program := "ytblbpelaleaonaa", sum := "df626b3662c65f22ff5aa05735cdda6e0b7421b68f9a3dc0225e728149162017", func := "attest/attestlaw03.NatMuls", spec := "natMuls", apart := false }
def NatMulsSaid : Prop := natMulsRow.holds Try.pinned (OpenSpec.ofChange natMulsSpec)

/-- ITS FALSE NEIGHBOUR: 'it returns false'. Refute it at one input. -/
def natMulsWrong : ChangeSpec := { name := "natMuls", fn := fun _ => fun
  | [d1, d2] => { results := [.lit (.bool false)], args := [d1, d2] }
  | _ => none }
def NatMulsWrongFalsely : Prop := natMulsRow.holds Try.pinned (OpenSpec.ofChange natMulsWrong)

/-- 'attestlaw03.NatDivs': WHATEVER THE INPUT: true; the input reads as it did. -/
def natDivsSpec : ChangeSpec := { name := "natDivs", fn := fun _ => fun
  | [d1, d2, d3] => { results := [.lit (.bool true)], args := [d1, d2, d3] }
  | _ => none }
def natDivsRow : OpenClaim := { program := "ytblbpelaleaonaa", sum := "df626b3662c65f22ff5aa05735cdda6e0b7421b68f9a3dc0225e728149162017", func := "attest/attestlaw03.NatDivs", spec := "natDivs", apart := false }
def NatDivsSaid : Prop := natDivsRow.holds Try.pinned (OpenSpec.ofChange natDivsSpec)

/-- ITS FALSE NEIGHBOUR: 'it returns false'. Refute it at one input. -/
def natDivsWrong : ChangeSpec := { name := "natDivs", fn := fun _ => fun
  | [d1, d2, d3] => { results := [.lit (.bool false)], args := [d1, d2, d3] }
  | _ => none }
def NatDivsWrongFalsely : Prop := natDivsRow.holds Try.pinned (OpenSpec.ofChange natDivsWrong)

/-- 'attestlaw03.NatGcds': WHATEVER THE INPUT: true; the input reads as it did. -/
def natGcdsSpec : ChangeSpec := { name := "natGcds", fn := fun _ => fun
  | [d1, d2] => { results := [.lit (.bool true)], args := [d1, d2] }
  | _ => none }
def natGcdsRow : OpenClaim := { program := "ytblbpelaleaonaa", sum := "df626b3662c65f22ff5aa05735cdda6e0b7421b68f9a3dc0225e728149162017", func := "attest/attestlaw03.NatGcds", spec := "natGcds", apart := false }
def NatGcdsSaid : Prop := natGcdsRow.holds Try.pinned (OpenSpec.ofChange natGcdsSpec)

/-- ITS FALSE NEIGHBOUR: 'it returns false'. Refute it at one input. -/
def natGcdsWrong : ChangeSpec := { name := "natGcds", fn := fun _ => fun
  | [d1, d2] => { results := [.lit (.bool false)], args := [d1, d2] }
  | _ => none }
def NatGcdsWrongFalsely : Prop := natGcdsRow.holds Try.pinned (OpenSpec.ofChange natGcdsWrong)

/-- 'attestlaw03.NatRing': WHATEVER THE INPUT: true; the input reads as it did. -/
def natRingSpec : ChangeSpec := { name := "natRing", fn := fun _ => fun
  | [d1, d2, d3] => { results := [.lit (.bool true)], args := [d1, d2, d3] }
  | _ => none }
def natRingRow : OpenClaim := { program := "ytblbpelaleaonaa", sum := "df626b3662c65f22ff5aa05735cdda6e0b7421b68f9a3dc0225e728149162017", func := "attest/attestlaw03.NatRing", spec := "natRing", apart := false }
def NatRingSaid : Prop := natRingRow.holds Try.pinned (OpenSpec.ofChange natRingSpec)

/-- ITS FALSE NEIGHBOUR: 'it returns false'. Refute it at one input. -/
def natRingWrong : ChangeSpec := { name := "natRing", fn := fun _ => fun
  | [d1, d2, d3] => { results := [.lit (.bool false)], args := [d1, d2, d3] }
  | _ => none }
def NatRingWrongFalsely : Prop := natRingRow.holds Try.pinned (OpenSpec.ofChange natRingWrong)

/-- 'attestlaw03.NatLends': WHATEVER THE INPUT: true; the input reads as it did. -/
def natLendsSpec : ChangeSpec := { name := "natLends", fn := fun _ => fun
  | [d1, d2] => { results := [.lit (.bool true)], args := [d1, d2] }
  | _ => none }
def natLendsRow : OpenClaim := { program := "ytblbpelaleaonaa", sum := "df626b3662c65f22ff5aa05735cdda6e0b7421b68f9a3dc0225e728149162017", func := "attest/attestlaw03.NatLends", spec := "natLends", apart := false }
def NatLendsSaid : Prop := natLendsRow.holds Try.pinned (OpenSpec.ofChange natLendsSpec)

/-- ITS FALSE NEIGHBOUR: 'it returns false'. Refute it at one input. -/
def natLendsWrong : ChangeSpec := { name := "natLends", fn := fun _ => fun
  | [d1, d2] => { results := [.lit (.bool false)], args := [d1, d2] }
  | _ => none }
def NatLendsWrongFalsely : Prop := natLendsRow.holds Try.pinned (OpenSpec.ofChange natLendsWrong)

/-- 'attestlaw03.NatWhole': WHATEVER THE INPUT: true; the input reads as it did. -/
def natWholeSpec : ChangeSpec := { name := "natWhole", fn := fun _ => fun
  | [d1, d2] => { results := [.lit (.bool true)], args := [d1, d2] }
  | _ => none }
def natWholeRow : OpenClaim := { program := "ytblbpelaleaonaa", sum := "df626b3662c65f22ff5aa05735cdda6e0b7421b68f9a3dc0225e728149162017", func := "attest/attestlaw03.NatWhole", spec := "natWhole", apart := false }
def NatWholeSaid : Prop := natWholeRow.holds Try.pinned (OpenSpec.ofChange natWholeSpec)

/-- ITS FALSE NEIGHBOUR: 'it returns false'. Refute it at one input. -/
def natWholeWrong : ChangeSpec := { name := "natWhole", fn := fun _ => fun
  | [d1, d2] => { results := [.lit (.bool false)], args := [d1, d2] }
  | _ => none }
def NatWholeWrongFalsely : Prop := natWholeRow.holds Try.pinned (OpenSpec.ofChange natWholeWrong)

/- THE SECOND FORM. 'bulk': how many values and letters a reading holds, each counted each time it is reached (what is shared counts as often as it is met; a slice's spare places count too). A statement '..UptoSaid' is the law's where the arguments, and the package variables that the reading takes, are together of bulk at most 1048576: NARROWER than '..Said'. Prove '..Said' where nothing that the law and all that it calls make is longer than what came in: it says more and counts as full. Else prove '..UptoSaid'. A law counts once. -/
mutual
def uptoBulk {H : Type} : DataW H → Nat
  | .lit (.string bytes) => bytes.length + 1
  | .lit _ => 1
  | .nil => 1
  | .ptr d => uptoBulk d + 1
  | .slice elems spare => uptoBulkAll elems + uptoBulkAll spare + 1
  | .agg parts => uptoBulkAll parts + 1
  | .iface _ d => uptoBulk d + 1
  | .map entries => uptoBulkEntries entries + 1
  | .held _ => 1
def uptoBulkAll {H : Type} : List (DataW H) → Nat
  | [] => 0
  | d :: r => uptoBulk d + uptoBulkAll r
def uptoBulkEntries {H : Type} : List (Lit × DataW H) → Nat
  | [] => 0
  | x :: r => uptoBulkEntry x + uptoBulkEntries r
def uptoBulkEntry {H : Type} : Lit × DataW H → Nat
  | (.string bytes, d) => bytes.length + uptoBulk d + 1
  | (_, d) => uptoBulk d + 1
 end
def uptoSmall : (H : Type) → List (DataW H) → Bool := fun _ ds => decide (uptoBulkAll ds ≤ 1048576)
def OpenSpec.upto (s : _root_.Go.ChangeSpec) : _root_.Go.OpenSpec := { _root_.Go.OpenSpec.ofChange s with cond := some uptoSmall }

/-- 'attestlaw03.NatMuls', WHERE WHAT IT READS IS OF BULK AT MOST 1048576: true; the input reads as it did. -/
def natMulsUptoRow : OpenClaim := { program := "ytblbpelaleaonaa", sum := "df626b3662c65f22ff5aa05735cdda6e0b7421b68f9a3dc0225e728149162017", func := "attest/attestlaw03.NatMuls", spec := "natMuls", apart := false, narrowed := true }
def NatMulsUptoSaid : Prop := natMulsUptoRow.holds Try.pinned (OpenSpec.upto natMulsSpec)

/-- 'attestlaw03.NatDivs', WHERE WHAT IT READS IS OF BULK AT MOST 1048576: true; the input reads as it did. -/
def natDivsUptoRow : OpenClaim := { program := "ytblbpelaleaonaa", sum := "df626b3662c65f22ff5aa05735cdda6e0b7421b68f9a3dc0225e728149162017", func := "attest/attestlaw03.NatDivs", spec := "natDivs", apart := false, narrowed := true }
def NatDivsUptoSaid : Prop := natDivsUptoRow.holds Try.pinned (OpenSpec.upto natDivsSpec)

/-- 'attestlaw03.NatGcds', WHERE WHAT IT READS IS OF BULK AT MOST 1048576: true; the input reads as it did. -/
def natGcdsUptoRow : OpenClaim := { program := "ytblbpelaleaonaa", sum := "df626b3662c65f22ff5aa05735cdda6e0b7421b68f9a3dc0225e728149162017", func := "attest/attestlaw03.NatGcds", spec := "natGcds", apart := false, narrowed := true }
def NatGcdsUptoSaid : Prop := natGcdsUptoRow.holds Try.pinned (OpenSpec.upto natGcdsSpec)

/-- 'attestlaw03.NatRing', WHERE WHAT IT READS IS OF BULK AT MOST 1048576: true; the input reads as it did. -/
def natRingUptoRow : OpenClaim := { program := "ytblbpelaleaonaa", sum := "df626b3662c65f22ff5aa05735cdda6e0b7421b68f9a3dc0225e728149162017", func := "attest/attestlaw03.NatRing", spec := "natRing", apart := false, narrowed := true }
def NatRingUptoSaid : Prop := natRingUptoRow.holds Try.pinned (OpenSpec.upto natRingSpec)

/-- 'attestlaw03.NatLends', WHERE WHAT IT READS IS OF BULK AT MOST 1048576: true; the input reads as it did. -/
def natLendsUptoRow : OpenClaim := { program := "ytblbpelaleaonaa", sum := "df626b3662c65f22ff5aa05735cdda6e0b7421b68f9a3dc0225e728149162017", func := "attest/attestlaw03.NatLends", spec := "natLends", apart := false, narrowed := true }
def NatLendsUptoSaid : Prop := natLendsUptoRow.holds Try.pinned (OpenSpec.upto natLendsSpec)

/-- 'attestlaw03.NatWhole', WHERE WHAT IT READS IS OF BULK AT MOST 1048576: true; the input reads as it did. -/
def natWholeUptoRow : OpenClaim := { program := "ytblbpelaleaonaa", sum := "df626b3662c65f22ff5aa05735cdda6e0b7421b68f9a3dc0225e728149162017", func := "attest/attestlaw03.NatWhole", spec := "natWhole", apart := false, narrowed := true }
def NatWholeUptoSaid : Prop := natWholeUptoRow.holds Try.pinned (OpenSpec.upto natWholeSpec)

end Rows
end Go.Proofs.Ytblbpelaleaonaa
