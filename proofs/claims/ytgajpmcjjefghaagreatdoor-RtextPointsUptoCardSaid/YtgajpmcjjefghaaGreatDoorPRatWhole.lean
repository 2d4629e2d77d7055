/- rat.Whole -/
import Derived.Test.YtgajpmcjjefghaaGreatDoorRatPlain
import Derived.Test.YtgajpmcjjefghaaGreatDoorLimbAll
namespace Go.Proofs.YtgajpmcjjefghaaGreatDoor
open Go.RowKit Go.Att

theorem dens_nil {d : Nat} : (dens d).length = 0 ↔ d = 1 ∨ d = 0 := by
  unfold dens
  by_cases h : d = 1
  · simp [h]
  · rw [if_neg h]
    have := limbs_len_pos (x := d)
    omega
theorem whole_any {w : World} {v : Value} {q : Rat} (hq : RdQ w v q) :
    Calls Tryz.prog 76 #[v] w (Gives w fun v' _ => v' = .bool (decide (q.den = 1))) := by
  refine via fun R hR => ?_
  obtain ⟨n, d, rfl, hn, hd⟩ := hq
  obtain ⟨a, c, rfl, -, -, -, -⟩ := hd.1.shape
  clear hn hd
  have hz := dens_nil (d := q.den)
  have hp := q.den_nz
  by_cases h : q.den = 1
  · rw [decide_eq_true h] at hR
    have hl : (((dens q.den).length : Int) == 0) = true := beqT (by omega)
    clear h hz hp
    go_enter Tryz.func76, Tryz.ntmps76
    go_wp2_with fail
    exact hR.out _ _ (Gives.mk (Ext.alloc _ _) rfl)
  · rw [decide_eq_false h] at hR
    have hl : (((dens q.den).length : Int) == 0) = false := beqF (by omega)
    clear h hz hp
    go_enter Tryz.func76, Tryz.ntmps76
    go_wp2_with fail
    exact hR.out _ _ (Gives.mk (Ext.alloc _ _) rfl)
end Go.Proofs.YtgajpmcjjefghaaGreatDoor
