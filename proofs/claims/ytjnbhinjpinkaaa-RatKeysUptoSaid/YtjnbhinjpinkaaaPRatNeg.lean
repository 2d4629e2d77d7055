/- rat.Neg -/
import Derived.Test.YtjnbhinjpinkaaaRatPlain
import Derived.Test.YtjnbhinjpinkaaaLimbAll
namespace Go.Proofs.Ytjnbhinjpinkaaa
open Go.RowKit Go.Att

theorem rneg_any {w : World} {v : Value} {q : Rat} (hq : RdQ w v q) :
    Calls Try.prog 40 #[v] w (Gives w fun v' w' => RdQ w' v' (-q)) := by
  refine via fun R hR => ?_
  have hs := neg_sign q
  have ha : (-q).num.natAbs = q.num.natAbs := by rw [Rat.neg_num, Int.natAbs_neg]
  have hb : (-q).den = q.den := rfl
  generalize -q = r at *
  obtain ⟨n, d, rfl, hn, hd⟩ := hq
  have HN := Lib.hid hn
  have HD := Lib.hid hd
  have HS := Lib.hid hs
  rw [← ha] at hn
  have HA := Lib.hid ha
  have HB := Lib.hid hb
  obtain ⟨a, c, rfl, -, -, -, -⟩ := HN.out.1.shape
  obtain ⟨a', c', rfl, -, -, -, -⟩ := HD.out.1.shape
  have hp := limbs_len_pos (x := q.num.natAbs)
  clear hn hd hs ha hb
  cases hsg : decide (q.num < 0)
  · by_cases h0 : 0 < q.num.natAbs
    · have eN : 0 < (limbs q.num.natAbs).length := hp.2 h0
      have HT : Hid (true = decide (r.num < 0)) := by show _ = _; rw [← HS.out, hsg]; simp [h0]
      clear HS hsg
      go_enter Try.func40, Try.ntmps40
      go_wp2_with fail
      refine bodyPost_ret (v := .agg #[.bool true, .slice a (limbs q.num.natAbs).length c, .slice a' (dens q.den).length c']) (by simp [results, Try.results40, go_sem]) rfl ?_
      have xx : Ext w ((w.alloc (.cells #[.bool true, .slice a (limbs q.num.natAbs).length c, .slice a' (dens q.den).length c'] 36)).alloc (.cells #[.bool true, .slice a (limbs q.num.natAbs).length c, .slice a' (dens q.den).length c'] 36)) := (Ext.alloc _ _).trans (Ext.alloc _ _)
      exact hR.out _ _ (Gives.mk xx ⟨_, _, agg_eq HT.out, by rw [HA.out]; exact HN.out.ext xx, by rw [HB.out]; exact HD.out.ext xx⟩)
    · have eN : (limbs q.num.natAbs).length ≤ 0 := by omega
      have HT : Hid (false = decide (r.num < 0)) := by show _ = _; rw [← HS.out, hsg]; simp [h0]
      clear HS hsg
      go_enter Try.func40, Try.ntmps40
      go_wp2_with fail
      refine bodyPost_ret (v := .agg #[.bool false, .slice a (limbs q.num.natAbs).length c, .slice a' (dens q.den).length c']) (by simp [results, Try.results40, go_sem]) rfl ?_
      have xx : Ext w ((w.alloc (.cells #[.bool false, .slice a (limbs q.num.natAbs).length c, .slice a' (dens q.den).length c'] 36)).alloc (.cells #[.bool false, .slice a (limbs q.num.natAbs).length c, .slice a' (dens q.den).length c'] 36)) := (Ext.alloc _ _).trans (Ext.alloc _ _)
      exact hR.out _ _ (Gives.mk xx ⟨_, _, agg_eq HT.out, by rw [HA.out]; exact HN.out.ext xx, by rw [HB.out]; exact HD.out.ext xx⟩)
  · have eN : True := trivial
    have HT : Hid (false = decide (r.num < 0)) := by show _ = _; rw [← HS.out, hsg]; simp
    clear HS hsg
    go_enter Try.func40, Try.ntmps40
    go_wp2_with fail
    refine bodyPost_ret (v := .agg #[.bool false, .slice a (limbs q.num.natAbs).length c, .slice a' (dens q.den).length c']) (by simp [results, Try.results40, go_sem]) rfl ?_
    have xx : Ext w ((w.alloc (.cells #[.bool false, .slice a (limbs q.num.natAbs).length c, .slice a' (dens q.den).length c'] 36)).alloc (.cells #[.bool false, .slice a (limbs q.num.natAbs).length c, .slice a' (dens q.den).length c'] 36)) := (Ext.alloc _ _).trans (Ext.alloc _ _)
    exact hR.out _ _ (Gives.mk xx ⟨_, _, agg_eq HT.out, by rw [HA.out]; exact HN.out.ext xx, by rw [HB.out]; exact HD.out.ext xx⟩)
end Go.Proofs.Ytjnbhinjpinkaaa
