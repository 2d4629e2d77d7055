/- A world for the witness: the table of bits.TrailingZeros32 holds what the rows list; and what the rows' listing says of a world. -/
import Derived.Test.YtndjddeiilggpaaDoorCards
import Derived.Test.YtndjddeiilggpaaDoorTie
import Derived.Test.YtndjddeiilggpaaDoorFrame
import Derived.WalkKit
import Derived.ProofKit
import Derived.OpenShut
import Derived.Deep.DeepHandedRow
import Derived.Lib.LaidTab
import Derived.Shelf.Spec.TrailingZeros
namespace Go.Proofs.YtndjddeiilggpaaDoor
open Go.ChangeShapes Go.WideShapes Go.ChangeAt Go.RowKit

theorem gTab : Tryd.prog.globalNamed "math/bits.deBruijn32tab" = some 0 := by kernel_rfl
def tabInts : List Int := Lib.deBruijn32tab.map fun (n : Nat) => (n : Int)
noncomputable def tabCells : Array Value := (tabInts.map fun z => Value.int .u8 z).toArray
noncomputable def withCells (cs : Array Value) : Obj → Obj
  | .cells _ t frozen => .cells cs t frozen
  | o => o
/-- The settled world with the table laid. -/
noncomputable def laidWorld (os : Os) : World :=
  { World.holding Tryd.prog os ⟨#[], #[], []⟩ with heap := (World.holding Tryd.prog os ⟨#[], #[], []⟩).heap.modify 0 (withCells tabCells) }
theorem tabAt {W : World} (h : laidMetH Tryd.prog Rows.limbFormsUptoRow.laid W) : TabAt 0 Lib.deBruijn32tab W := by
  have h2 : laidMet Tryd.prog [("math/bits.deBruijn32tab", Lib.tabData .u8 tabInts)] W := h
  have h3 := Lib.tabIs_of_head (g := 0) (n := 32) gTab (by kernel_rfl) Tryd.underlying39 Tryd.underlying5 (by kernel_rfl) (by kernel_rfl) h2
  intro j hj
  have h4 := h3.cell gTab j (by unfold tabInts; rw [List.length_map]; exact hj)
  rw [h4]
  unfold tabInts
  simp [List.getD, hj]
end Go.Proofs.YtndjddeiilggpaaDoor
