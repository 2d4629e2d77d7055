/- rat.Neg -/
import Derived.Test.YtgajpmcjjefghaaGreatDoorRatPlain
import Derived.Test.YtgajpmcjjefghaaGreatDoorLimbAll
namespace Go.Proofs.YtgajpmcjjefghaaGreatDoor
open Go.RowKit Go.Att

theorem rneg_val {w : World} {x n d : Value} {q : Rat} (hq : RdQ w (.agg #[x, n, d]) q) :
    Calls Tryz.prog 48 #[.agg #[x, n, d]] w (Gives w fun v' _ => v' = .agg #[.bool (decide ((-q).num < 0)), n, d]) := by
  refine via fun R hR => ?_
  have hs := neg_sign q
  have ha : (-q).num.natAbs = q.num.natAbs := by rw [Rat.neg_num, Int.natAbs_neg]
  have hb : (-q).den = q.den := rfl
  generalize -q = r at *
  obtain ⟨n', d', he, hn, hd⟩ := hq
  obtain ⟨rfl, rfl, rfl⟩ : x = .bool (decide (q.num < 0)) ∧ n = n' ∧ d = d' := by simpa using he
  have HN := Lib.hid hn
  have HD := Lib.hid hd
  have HS := Lib.hid hs
  clear he
  obtain ⟨a, c, rfl, -, -, -, -⟩ := HN.out.1.shape
  obtain ⟨a', c', rfl, -, -, -, -⟩ := HD.out.1.shape
  have hp := limbs_len_pos (x := q.num.natAbs)
  clear hn hd hs ha hb
  cases hsg : decide (q.num < 0)
  · by_cases h0 : 0 < q.num.natAbs
    · have eN : 0 < (limbs q.num.natAbs).length := hp.2 h0
      have HT : Hid (true = decide (r.num < 0)) := by show _ = _; rw [← HS.out, hsg]; simp [h0]
      clear HS hsg
      go_enter Tryz.func48, Tryz.ntmps48
      go_wp2_with fail
      refine bodyPost_ret (v := .agg #[.bool true, .slice a (limbs q.num.natAbs).length c, .slice a' (dens q.den).length c']) (by simp [results, Tryz.results48, go_sem]) rfl ?_
      have xx : Ext w ((w.alloc (.cells #[.bool true, .slice a (limbs q.num.natAbs).length c, .slice a' (dens q.den).length c'] 26)).alloc (.cells #[.bool true, .slice a (limbs q.num.natAbs).length c, .slice a' (dens q.den).length c'] 26)) := (Ext.alloc _ _).trans (Ext.alloc _ _)
      exact hR.out _ _ (Gives.mk xx (agg_eq HT.out))
    · have eN : (limbs q.num.natAbs).length ≤ 0 := by omega
      have HT : Hid (false = decide (r.num < 0)) := by show _ = _; rw [← HS.out, hsg]; simp [h0]
      clear HS hsg
      go_enter Tryz.func48, Tryz.ntmps48
      go_wp2_with fail
      refine bodyPost_ret (v := .agg #[.bool false, .slice a (limbs q.num.natAbs).length c, .slice a' (dens q.den).length c']) (by simp [results, Tryz.results48, go_sem]) rfl ?_
      have xx : Ext w ((w.alloc (.cells #[.bool false, .slice a (limbs q.num.natAbs).length c, .slice a' (dens q.den).length c'] 26)).alloc (.cells #[.bool false, .slice a (limbs q.num.natAbs).length c, .slice a' (dens q.den).length c'] 26)) := (Ext.alloc _ _).trans (Ext.alloc _ _)
      exact hR.out _ _ (Gives.mk xx (agg_eq HT.out))
  · have eN : True := trivial
    have HT : Hid (false = decide (r.num < 0)) := by show _ = _; rw [← HS.out, hsg]; simp
    clear HS hsg
    go_enter Tryz.func48, Tryz.ntmps48
    go_wp2_with fail
    refine bodyPost_ret (v := .agg #[.bool false, .slice a (limbs q.num.natAbs).length c, .slice a' (dens q.den).length c']) (by simp [results, Tryz.results48, go_sem]) rfl ?_
    have xx : Ext w ((w.alloc (.cells #[.bool false, .slice a (limbs q.num.natAbs).length c, .slice a' (dens q.den).length c'] 26)).alloc (.cells #[.bool false, .slice a (limbs q.num.natAbs).length c, .slice a' (dens q.den).length c'] 26)) := (Ext.alloc _ _).trans (Ext.alloc _ _)
    exact hR.out _ _ (Gives.mk xx (agg_eq HT.out))
theorem rneg_any {w : World} {v : Value} {q : Rat} (hq : RdQ w v q) :
    Calls Tryz.prog 48 #[v] w (Gives w fun v' w' => RdQ w' v' (-q)) := by
  obtain ⟨n, d, rfl, hn, hd⟩ := hq
  refine (rneg_val ⟨n, d, rfl, hn, hd⟩).mono ?_
  rintro e w' ⟨_, rfl, b, rfl⟩
  exact Gives.mk b ⟨n, d, rfl, by rw [Rat.neg_num, Int.natAbs_neg]; exact hn.ext b, hd.ext b⟩
end Go.Proofs.YtgajpmcjjefghaaGreatDoor
