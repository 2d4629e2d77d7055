/- attestref05.low, Sign -/
import Derived.Test.YtgajpmcjjefghaaGreatDoorRatPlain
import Derived.Test.YtgajpmcjjefghaaGreatDoorRefAll
namespace Go.Proofs.YtgajpmcjjefghaaGreatDoor
open Go.RowKit Go.Att

theorem r5sign_any {w : World} {v : Value} {q : Rat} (hq : RdP w v q) :
    Calls Tryz.prog 20 #[v] w (Gives w fun v' _ => v' = .int .i64 q.num.sign) := by
  refine via fun R hR => ?_
  obtain ⟨n, d, rfl, hn, hd⟩ := hq
  obtain ⟨a, c, rfl, -, -, -, -⟩ := hn.shape
  clear hn hd
  rcases Int.lt_trichotomy q.num 0 with h | h | h
  · have e : q.num.sign = -1 := Int.sign_eq_neg_one_of_neg h
    have hl : (((bitsOf q.num.natAbs).length : Int) == 0) = false := beqF (by have := bits_len_pos.2 (show 0 < q.num.natAbs by omega); omega)
    have hs : decide (q.num < 0) = true := decide_eq_true h
    rw [e] at hR
    rw [hs]
    go_enter Tryz.func20, Tryz.ntmps20
    go_wp2_with fail
    exact hR.out _ _ (Gives.mk (Ext.alloc _ _) rfl)
  · have e : q.num.sign = 0 := by rw [h]; rfl
    have hl : (((bitsOf q.num.natAbs).length : Int) == 0) = true := beqT (by have := bits_len_pos (x := q.num.natAbs); omega)
    rw [e] at hR
    clear h e
    go_enter Tryz.func20, Tryz.ntmps20
    go_wp2_with fail
    exact hR.out _ _ (Gives.mk (Ext.alloc _ _) rfl)
  · have e : q.num.sign = 1 := Int.sign_eq_one_of_pos h
    have hl : (((bitsOf q.num.natAbs).length : Int) == 0) = false := beqF (by have := bits_len_pos.2 (show 0 < q.num.natAbs by omega); omega)
    have hs : decide (q.num < 0) = false := decide_eq_false (by omega)
    rw [e] at hR
    rw [hs]
    go_enter Tryz.func20, Tryz.ntmps20
    go_wp2_with fail
    exact hR.out _ _ (Gives.mk (Ext.alloc _ _) rfl)
end Go.Proofs.YtgajpmcjjefghaaGreatDoor
