/- attestref05.Of where 1 stands below the bar: the two lists come back as they are -/
import Derived.Test.YtjnbhinjpinkaaaPRef5Of
namespace Go.Proofs.Ytjnbhinjpinkaaa
open Go.RowKit Go.Att

theorem r5of_one {w : World} {s : Bool} {va vb : Value} {n : Nat} (ha : RdB w va (bitsOf n)) (hb : RdB w vb (bitsOf 1)) :
    Calls Try.prog 24 #[.bool s, va, vb] w (Gives w fun v' _ => v' = .agg #[.bool (s && decide (0 < n)), va, vb]) := by
  refine via fun R hR => ?_
  obtain ⟨a, ca, rfl, -, -, -, -⟩ := ha.shape
  obtain ⟨b, cb, rfl, -, -, -, -⟩ := hb.shape
  clear ha hb
  have hl : (((bitsOf 1).length : Int) == 1) = true := beqT (by have := (bits_one 1).2 rfl; omega)
  cases s
  · skip
    go_enter Try.func24, Try.ntmps24
    go_wp2_with fail
    refine bodyPost_ret (v := .agg #[.bool false, .slice a (bitsOf n).length ca, .slice b (bitsOf 1).length cb]) (by simp [results, Try.results24, go_sem]) rfl ?_
    exact hR.out _ _ (Gives.mk (Ext.alloc _ _) (agg_eq (by simp)))
  · by_cases hn : 0 < n
    · have eN : 0 < (bitsOf n).length := bits_len_pos.2 hn
      go_enter Try.func24, Try.ntmps24
      go_wp2_with fail
      refine bodyPost_ret (v := .agg #[.bool true, .slice a (bitsOf n).length ca, .slice b (bitsOf 1).length cb]) (by simp [results, Try.results24, go_sem]) rfl ?_
      exact hR.out _ _ (Gives.mk (Ext.alloc _ _) (agg_eq (by simp [hn])))
    · have eN : (bitsOf n).length ≤ 0 := by have := bits_len_pos (x := n); omega
      go_enter Try.func24, Try.ntmps24
      go_wp2_with fail
      refine bodyPost_ret (v := .agg #[.bool false, .slice a (bitsOf n).length ca, .slice b (bitsOf 1).length cb]) (by simp [results, Try.results24, go_sem, List.length_eq_zero_iff.1 (Nat.le_zero.1 eN)]) rfl ?_
      exact hR.out _ _ (Gives.mk (Ext.alloc _ _) (agg_eq (by simp [hn])))
end Go.Proofs.Ytjnbhinjpinkaaa
