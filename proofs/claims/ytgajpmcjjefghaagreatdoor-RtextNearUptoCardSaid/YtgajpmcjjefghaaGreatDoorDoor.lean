/- A world for the witness: the two tables of unicode/utf8 hold what the rows list. -/
import Derived.Test.YtgajpmcjjefghaaGreatDoorCards
import Derived.Test.YtgajpmcjjefghaaGreatDoorTie
import Derived.Test.YtgajpmcjjefghaaGreatDoorFrame
import Derived.WalkKit
import Derived.ProofKit
import Derived.OpenShut
import Derived.Deep.DeepHandedRow
import Derived.Lib.LaidTab
namespace Go.Proofs.YtgajpmcjjefghaaGreatDoor
open Go.ChangeShapes Go.WideShapes Go.ChangeAt Go.RowKit

theorem gFirst : Tryz.prog.globalNamed "unicode/utf8.first" = some 1 := by kernel_rfl
theorem gRanges : Tryz.prog.globalNamed "unicode/utf8.acceptRanges" = some 2 := by kernel_rfl
noncomputable def firstCells : Array Value := (Go.Pinned.utf8FirstZ.map fun n => Value.int .u8 ((n : Nat) : Int)).toArray
noncomputable def rangesCells : Array Value := (([128, 191, 160, 191, 128, 159, 144, 191, 128, 143] ++ List.replicate 22 0).map fun n => Value.int .u8 ((n : Nat) : Int)).toArray
noncomputable def withCells (cs : Array Value) : Obj → Obj
  | .cells _ t frozen => .cells cs t frozen
  | o => o
/-- The settled world with both tables laid. -/
noncomputable def laidWorld (os : Os) : World :=
  { World.holding Tryz.prog os ⟨#[], #[], []⟩ with heap := ((World.holding Tryz.prog os ⟨#[], #[], []⟩).heap.modify 1 (withCells firstCells)).modify 2 (withCells rangesCells) }
end Go.Proofs.YtgajpmcjjefghaaGreatDoor
