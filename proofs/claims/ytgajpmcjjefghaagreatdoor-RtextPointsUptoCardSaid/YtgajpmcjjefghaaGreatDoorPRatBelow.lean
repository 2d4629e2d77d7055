/- rat.one, below -/
import Derived.Test.YtgajpmcjjefghaaGreatDoorLimbAll
import Derived.Test.YtgajpmcjjefghaaGreatDoorRatPlain
namespace Go.Proofs.YtgajpmcjjefghaaGreatDoor
open Go.RowKit Go.Att

theorem one_any {w : World} : Calls Tryz.prog 68 #[] w (Gives w fun v' w' => OwnL 57 w.heap.size w' v' [1]) := by
  refine via fun R hR => ?_
  go_enter Tryz.func68, Tryz.ntmps68
  go_wp2_with fail
  exact hR.out _ _ (Gives.mk (Ext.alloc _ _) ⟨World.ownsRow_lit w _ _ (Nat.le_refl _) (by decide) rfl, Fit.one (by decide)⟩)

theorem below_any {w : World} {s n d : Value} {D : Nat} (hd : RdL w d (dens D)) :
    Calls Tryz.prog 46 #[.agg #[s, n, d]] w (Gives w fun v' w' => RdL w' v' (bel D)) := by
  refine via fun R hR => ?_
  have HD := Lib.hid hd
  obtain ⟨a, c, rfl, h1, h2, _, _⟩ := hd.1.shape
  clear hd
  by_cases h : dens D = []
  · have hl : (((dens D).length : Int) == 0) = true := beqT (by simp [h])
    have e : Hid (bel D = [1]) := bel_one h
    clear h
    go_enter Tryz.func46, Tryz.ntmps46
    go_wp2_with fail
    refine (one_any).mono ?_
    rintro e w1 ⟨v1, rfl, b1, o1⟩
    have O1 := Lib.hid o1
    clear o1
    go_wp2_with fail
    exact hR.out _ _ (Gives.mk ((Ext.alloc _ _).trans b1) (by rw [e.out]; exact O1.out.rd))
  · have hl : (((dens D).length : Int) == 0) = false := beqF (by have := List.length_pos_iff.2 h; omega)
    have e : Hid (bel D = dens D) := bel_same h
    clear h
    go_enter Tryz.func46, Tryz.ntmps46
    go_wp2_with fail
    exact hR.out _ _ (Gives.mk (Ext.alloc _ _) (by rw [e.out]; exact HD.out.ext (Ext.alloc _ _)))
end Go.Proofs.YtgajpmcjjefghaaGreatDoor
