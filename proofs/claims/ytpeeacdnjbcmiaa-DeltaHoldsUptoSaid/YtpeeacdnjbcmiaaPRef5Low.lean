/- attestref05.low, Sign -/
import Derived.Test.YtpeeacdnjbcmiaaRatPlain
import Derived.Test.YtpeeacdnjbcmiaaRefAll
namespace Go.Proofs.Ytpeeacdnjbcmiaa
open Go.RowKit Go.Att

theorem r5low_any {w : World} {v : Value} {q : Rat} (hq : RdP w v q) :
    Calls Try.prog 91 #[v] w (Gives w fun v' w' => RdB w' v' (bitsOf q.den)) := by
  refine via fun R hR => ?_
  obtain ⟨n, d, rfl, hn, hd⟩ := hq
  have HD := Lib.hid hd
  obtain ⟨a, c, rfl, -, -, -, -⟩ := hd.shape
  clear hn hd
  have hl : (((bitsOf q.den).length : Int) == 0) = false := beqF (by have := (bits_len_pos (x := q.den)).2 q.den_pos; omega)
  go_enter Try.func91, Try.ntmps91
  go_wp2_with fail
  exact hR.out _ _ (Gives.mk (Ext.alloc _ _) (HD.out.ext (Ext.alloc _ _)))

theorem low_same {w : World} {s n d : Value} {D : Nat} (hd : RdB w d (bitsOf D)) (h0 : D ≠ 0) :
    Calls Try.prog 91 #[.agg #[s, n, d]] w (Gives w fun v' _ => v' = d) := by
  refine via fun R hR => ?_
  obtain ⟨a, c, rfl, -, -, -, -⟩ := hd.shape
  clear hd
  have hl : (((bitsOf D).length : Int) == 0) = false := beqF (by have := (bits_len_pos (x := D)).2 (by omega); omega)
  clear h0
  go_enter Try.func91, Try.ntmps91
  go_wp2_with fail
  exact hR.out _ _ (Gives.mk (Ext.alloc _ _) rfl)

theorem r5sign_any {w : World} {v : Value} {q : Rat} (hq : RdP w v q) :
    Calls Try.prog 108 #[v] w (Gives w fun v' _ => v' = .int .i64 q.num.sign) := by
  refine via fun R hR => ?_
  obtain ⟨n, d, rfl, hn, hd⟩ := hq
  obtain ⟨a, c, rfl, -, -, -, -⟩ := hn.shape
  clear hn hd
  rcases Int.lt_trichotomy q.num 0 with h | h | h
  · have e : q.num.sign = -1 := Int.sign_eq_neg_one_of_neg h
    have hl : (((bitsOf q.num.natAbs).length : Int) == 0) = false := beqF (by have := bits_len_pos.2 (show 0 < q.num.natAbs by omega); omega)
    have hs : decide (q.num < 0) = true := decide_eq_true h
    rw [e] at hR
    rw [hs]
    go_enter Try.func108, Try.ntmps108
    go_wp2_with fail
    exact hR.out _ _ (Gives.mk (Ext.alloc _ _) rfl)
  · have e : q.num.sign = 0 := by rw [h]; rfl
    have hl : (((bitsOf q.num.natAbs).length : Int) == 0) = true := beqT (by have := bits_len_pos (x := q.num.natAbs); omega)
    rw [e] at hR
    clear h e
    go_enter Try.func108, Try.ntmps108
    go_wp2_with fail
    exact hR.out _ _ (Gives.mk (Ext.alloc _ _) rfl)
  · have e : q.num.sign = 1 := Int.sign_eq_one_of_pos h
    have hl : (((bitsOf q.num.natAbs).length : Int) == 0) = false := beqF (by have := bits_len_pos.2 (show 0 < q.num.natAbs by omega); omega)
    have hs : decide (q.num < 0) = false := decide_eq_false (by omega)
    rw [e] at hR
    rw [hs]
    go_enter Try.func108, Try.ntmps108
    go_wp2_with fail
    exact hR.out _ _ (Gives.mk (Ext.alloc _ _) rfl)
end Go.Proofs.Ytpeeacdnjbcmiaa
