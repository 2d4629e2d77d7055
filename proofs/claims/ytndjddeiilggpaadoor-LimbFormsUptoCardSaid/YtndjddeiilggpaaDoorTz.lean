/- The shelf's contract of bits.TrailingZeros32 at this program: written by the kit's lay-plain, its numbers by name. -/
import Derived.Shelf.Spec.TrailingZeros
import Derived.Test.YtndjddeiilggpaaDoorProg
namespace Go.Proofs
open Go.Shelf Go.RowKit
def Tryd.lays7_28_ren : Go.Shelf.Ren := ⟨fun | 28 => 19 | n => n, fun | 27 => 34 | 3 => 3 | 4 => 4 | 25 => 40 | 53 => 39 | 0 => 0 | 5 => 5 | n => n, fun | 0 => 0 | n => n⟩
theorem Tryd.lays7_28 : Go.Proofs.Lays7.n28 Tryd.prog Tryd.lays7_28_ren := {
  mixed := by kernel_rfl
  f28 := Tryd.func19.trans (congrArg some (by kernel_rfl))
  t0 := Tryd.underlying0
  a0 := Tryd.isAgg0
  z0 := Tryd.sizeOf0
  v0 := Tryd.zeroValue0
  i0 := by kernel_rfl
  t3 := Tryd.underlying3
  a3 := Tryd.isAgg3
  z3 := Tryd.sizeOf3
  v3 := Tryd.zeroValue3
  i3 := by kernel_rfl
  t4 := Tryd.underlying4
  a4 := Tryd.isAgg4
  z4 := Tryd.sizeOf4
  v4 := Tryd.zeroValue4
  i4 := by kernel_rfl
  t5 := Tryd.underlying5
  a5 := Tryd.isAgg5
  z5 := Tryd.sizeOf5
  v5 := Tryd.zeroValue5
  i5 := by kernel_rfl
  t25 := Tryd.underlying40
  a25 := Tryd.isAgg40
  z25 := Tryd.sizeOf40
  v25 := Tryd.zeroValue40
  i25 := by kernel_rfl
  t27 := Tryd.underlying34
  a27 := Tryd.isAgg34
  z27 := Tryd.sizeOf34
  v27 := Tryd.zeroValue34
  i27 := by kernel_rfl
  t53 := Tryd.underlying39
  a53 := Tryd.isAgg39
  z53 := Tryd.sizeOf39
  v53 := Tryd.zeroValue39
  i53 := by kernel_rfl
  g0 := by kernel_rfl }

theorem Tryd.bits_TrailingZeros32 (x : Nat) (hx : x < 4294967296) (w : World) (hT : x ≠ 0 → TabAt 0 Lib.deBruijn32tab w) :
    Calls Tryd.prog 19 #[.int .u32 x] w fun e w' => e = .returned (.int .i64 (Lib.ctz 32 x)) ∧ w' = w :=
  Any7.bits_TrailingZeros32 Tryd.lays7_28 x hx w hT
end Go.Proofs
