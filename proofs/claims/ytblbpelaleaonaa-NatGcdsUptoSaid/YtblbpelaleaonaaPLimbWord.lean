/- limb.Word -/
import Derived.Test.YtblbpelaleaonaaPLimbCut
namespace Go.Proofs.Ytblbpelaleaonaa
open Go.RowKit Go.Att

theorem word_any {w : World} (u : Nat) (hu : u ≤ 18446744073709551615) :
    Calls Try.prog 32 #[.int .u64 u] w (Gives w fun v' w' => OwnL 32 w.heap.size w' v' (limbs u)) := by
  refine via fun R hR => ?_
  have E : Hid (nv [u % 4294967296, u / 4294967296] = u) := by show u % 4294967296 + 4294967296 * (u / 4294967296 + 4294967296 * 0) = u; omega
  have hf : Hid (Fit W32 [u % 4294967296, u / 4294967296]) := by intro x hx; simp at hx; unfold W32; omega
  have hd : u / 4294967296 ≤ 4294967295 := by omega
  go_enter Try.func32, Try.ntmps32
  go_wp2_with fail
  have hr : Hid (RdL (w.alloc (.cells #[.int .u32 ((u : Int) % 4294967296), .int .u32 ((u : Int) / 4294967296)] 32)) (.slice (some ⟨w.heap.size, 0, none⟩) 2 2) [u % 4294967296, u / 4294967296]) :=
    ⟨by have := RdV.lit w #[.int .u32 ((u : Int) % 4294967296), .int .u32 ((u : Int) / 4294967296)] 32 1 2 rfl (by unfold maxLen; omega)
        unfold RdI ints
        simpa using this, hf.out⟩
  refine (norm_any hr.out (by simp)).mono ?_
  rintro e w3 ⟨v3, rfl, hb4, ho3⟩
  have HO3 := Lib.hid ho3
  clear ho3
  go_wp2
  have ho4 := HO3.out
  rw [E.out] at ho4
  exact hR.out _ _ (Gives.mk (Ext.trans (Ext.alloc _ _) hb4) (ho4.mono (by simp)))
end Go.Proofs.Ytblbpelaleaonaa
