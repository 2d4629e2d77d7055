/- rat.Abs -/
import Derived.Test.YtpeeacdnjbcmiaaRatPlain
import Derived.Test.YtpeeacdnjbcmiaaLimbAll
namespace Go.Att
/-- The size. -/
@[irreducible] def absQ (q : Rat) : Rat := mkQ false q.num.natAbs q.den
theorem absQ_abs (q : Rat) : (absQ q).num.natAbs = q.num.natAbs := by unfold absQ; rw [mkQ_abs _ _ _ q.den_nz, show Nat.gcd q.num.natAbs q.den = 1 from q.reduced, Nat.div_one]
theorem absQ_den (q : Rat) : (absQ q).den = q.den := by unfold absQ; rw [mkQ_den _ _ _ q.den_nz, show Nat.gcd q.num.natAbs q.den = 1 from q.reduced, Nat.div_one]
theorem absQ_neg (q : Rat) : decide ((absQ q).num < 0) = false := by unfold absQ; rw [mkQ_neg _ _ _ q.den_nz]; rfl
theorem Sz.absQ {L : Nat} {q : Rat} (h : Sz L q) : Sz L (absQ q) := ⟨by rw [absQ_abs]; exact h.1, by rw [absQ_den]; exact h.2⟩
end Go.Att
namespace Go.Proofs.Ytpeeacdnjbcmiaa
open Go.RowKit Go.Att

theorem rabs_any {w : World} {v : Value} {q : Rat} (hq : RdQ w v q) :
    Calls Try.prog 61 #[v] w (Gives w fun v' w' => RdQ w' v' (absQ q)) := by
  refine via fun R hR => ?_
  have hs := absQ_neg q
  have ha := absQ_abs q
  have hb := absQ_den q
  generalize absQ q = r at *
  obtain ⟨n, d, rfl, hn, hd⟩ := hq
  have HN := Lib.hid hn
  have HD := Lib.hid hd
  have HT : Hid (false = decide (r.num < 0)) := hs.symm
  have HA := Lib.hid ha
  have HB := Lib.hid hb
  obtain ⟨a, c, rfl, -, -, -, -⟩ := HN.out.1.shape
  obtain ⟨a', c', rfl, -, -, -, -⟩ := HD.out.1.shape
  clear hn hd hs ha hb
  go_enter Try.func61, Try.ntmps61
  go_wp2_with fail
  refine bodyPost_ret (v := .agg #[.bool false, .slice a (limbs q.num.natAbs).length c, .slice a' (dens q.den).length c']) (by simp [results, Try.results61, go_sem]) rfl ?_
  have xx : Ext w ((w.alloc (.cells #[.bool false, .slice a (limbs q.num.natAbs).length c, .slice a' (dens q.den).length c'] 28)).alloc (.cells #[.bool false, .slice a (limbs q.num.natAbs).length c, .slice a' (dens q.den).length c'] 28)) := (Ext.alloc _ _).trans (Ext.alloc _ _)
  exact hR.out _ _ (Gives.mk xx ⟨_, _, agg_eq HT.out, by rw [HA.out]; exact HN.out.ext xx, by rw [HB.out]; exact HD.out.ext xx⟩)
end Go.Proofs.Ytpeeacdnjbcmiaa
