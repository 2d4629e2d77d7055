/- attestref05.Inv -/
import Derived.Test.YtpeeacdnjbcmiaaPRef5Low
import Derived.Deep.RegionHeld3
namespace Go.Proofs.Ytpeeacdnjbcmiaa
open Go.RowKit Go.Att

theorem r5inv_any {w : World} {v : Value} {q : Rat} (hq : RdP w v q) (h0 : q.num ≠ 0) :
    Calls Try.prog 109 #[v] w (Gives w fun v' w' => RdP w' v' q⁻¹) := by
  refine via fun R hR => ?_
  have hs : decide (q.num < 0) = decide ((q⁻¹).num < 0) := by
    rw [← invQ q h0, mkQ_neg _ _ _ (by omega), show Nat.gcd q.den q.num.natAbs = 1 by rw [Nat.gcd_comm]; exact q.reduced, Nat.div_one]
    have := q.den_pos
    simp [this]
  have ha : (q⁻¹).num.natAbs = q.den := by rw [← invQ q h0, mkQ_abs _ _ _ (by omega), show Nat.gcd q.den q.num.natAbs = 1 by rw [Nat.gcd_comm]; exact q.reduced, Nat.div_one]
  have hb : (q⁻¹).den = q.num.natAbs := by rw [← invQ q h0, mkQ_den _ _ _ (by omega), show Nat.gcd q.den q.num.natAbs = 1 by rw [Nat.gcd_comm]; exact q.reduced, Nat.div_one]
  generalize q⁻¹ = r at *
  have HS := Lib.hid hs
  have HA := Lib.hid ha
  have HB := Lib.hid hb
  have HQ := Lib.hid hq
  obtain ⟨n, d, rfl, hn, hd⟩ := hq
  have HN := Lib.hid hn
  have HD := Lib.hid hd
  obtain ⟨a, c, rfl, -, -, -, -⟩ := hn.shape
  obtain ⟨a', c', rfl, -, -, -, -⟩ := hd.shape
  clear hn hd h0 hs ha hb
  obtain ⟨w1, hw1, b1, c1, _, c3, z1⟩ := box1R w (.bool (decide (q.num < 0))) (.slice a (bitsOf q.num.natAbs).length c) (.slice a' (bitsOf q.den).length c') (.bool false) (.slice none 0 0) (.slice none 0 0) 33 33
  have C1 := Lib.hid c1
  have C3 := Lib.hid c3
  have HW := Lib.hid hw1
  clear c1 c3 hw1
  go_enter Try.func109, Try.ntmps109
  go_wp2_with fail
  rw [← HW.out]
  clear HW
  have b2 := drew_ext w1
  have XE := b2
  go_region_held3 (fun w' => w'.cell? ⟨w.heap.size, 0, none⟩ = some (.bool (decide (q.num < 0))) ∧ w'.cell? ⟨w.heap.size, 1, none⟩ = some (.slice a (bitsOf q.num.natAbs).length c) ∧ w'.cell? ⟨w.heap.size, 2, none⟩ = some (.slice a' (bitsOf q.den).length c')) (first | exact C1.out.ext XE | exact (C1.out.ext XE).put (by omega) _ _ _)
    (first
     | (go_at_call 91; refine (low_same (HD.out.ext (Ext.trans b1 b2)) q.den_nz).mono ?_; rintro e w3 ⟨_, rfl, b3, rfl⟩; (first | have XE := Ext.trans XE b3 | have XE := Ext.trans (Ext.trans XE (Ext.alloc _ _)) b3); obtain ⟨_, _, _, j0, j1, j2, g0, g1, g2⟩ := (C3.out.ext XE).cells))
  go_wp2_with fail
  refine bodyPost_ret (v := .agg #[.bool (decide (q.num < 0)), .slice a' (bitsOf q.den).length c', .slice a (bitsOf q.num.natAbs).length c]) (by simp [results, Try.results109, go_sem, j0, j1, j2]) rfl ?_
  have xx := put3_below (Ext.trans b1 (Ext.trans b2 b3)) (Nat.le_succ w.heap.size) (.bool (decide (q.num < 0))) (.slice a' (bitsOf q.den).length c') (.slice a (bitsOf q.num.natAbs).length c)
  exact hR.out _ _ (Gives.mk xx ⟨_, _, agg_eq HS.out, by rw [HA.out]; exact HD.out.ext xx, by rw [HB.out]; exact HN.out.ext xx⟩)
end Go.Proofs.Ytpeeacdnjbcmiaa
