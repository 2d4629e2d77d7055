/- attestref02.Copy -/
import Derived.Test.YtndjddeiilggpaaDoorPLimbCut
namespace Go.Proofs.YtndjddeiilggpaaDoor
open Go.RowKit Go.Att

theorem Copy_any {w : World} {v : Value} {xs : List Nat} (hv : RdL w v xs) (hl : xs.length ≤ 17592186044416) :
    Calls Tryd.prog 8 #[v] w (Gives w fun v' w' => OwnL 34 w.heap.size w' v' xs) := by
  refine via fun R hR => ?_
  have HV := Lib.hid hv
  clear hv
  go_enter Tryd.func8, Tryd.ntmps8
  go_wp2_with (at_builtin; refine append_rd et32 rfl _ _ rfl w.heap.size rfl (World.ownsRow_lit w #[] 0 (Nat.le_refl _) (Nat.zero_le _) rfl) rfl (RdV.ext HV.out.1 (Ext.alloc _ _)) (ints_one _ _) (by omega) (by unfold maxLen; omega) (by simp) ?_)
  intro v2 w2 ho2 hb2 _
  have HO2 := Lib.hid ho2
  clear ho2
  go_wp2
  exact hR.out _ _ (Gives.mk (Below.trans (Ext.alloc _ _) hb2) ⟨HO2.out, HV.out.2⟩)
end Go.Proofs.YtndjddeiilggpaaDoor
