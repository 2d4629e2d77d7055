/- literals of limbs -/
import Derived.Test.YtndjddeiilggpaaDoorPLimbCut
namespace Go.Proofs.YtndjddeiilggpaaDoor
open Go.RowKit Go.Att

theorem limbs_one {d : Nat} (h : d < W32) (h0 : d ≠ 0) : limbs d = [d] := by
  have := digs_canon W32_ge (xs := [d]) (Fit.one h) (.inr (by simpa [nth] using h0))
  rw [val_one] at this
  exact this.symm
theorem lit2_rd (w : World) (x y : Nat) (hx : x < W32) (hy : y < W32) : RdL (w.alloc (.cells #[.int .u32 x, .int .u32 y] 34)) (.slice (some ⟨w.heap.size, 0, none⟩) 2 2) [x, y] :=
  ⟨RdV.lit w #[.int .u32 x, .int .u32 y] 34 1 2 rfl (by unfold maxLen; omega), (Fit.one hx).app (Fit.one hy)⟩
theorem lit1_rd (w : World) (x : Nat) (hx : x < W32) : RdL (w.alloc (.cells #[.int .u32 x] 34)) (.slice (some ⟨w.heap.size, 0, none⟩) 1 1) [x] :=
  ⟨RdV.lit w #[.int .u32 x] 34 1 1 rfl (by unfold maxLen; omega), Fit.one hx⟩
end Go.Proofs.YtndjddeiilggpaaDoor
