/- rat.Min, rat.Max -/
import Derived.Test.YtpeeacdnjbcmiaaPRatCmp
namespace Go.Proofs.Ytpeeacdnjbcmiaa
open Go.RowKit Go.Att

theorem rmin_val {w : World} {va vb : Value} {p q : Rat} (hp : RdQ w va p) (hq : RdQ w vb q) (sp : Sz 10000000 p) (sq : Sz 10000000 q) :
    Calls Try.prog 102 #[va, vb] w (Gives w fun v' _ => v' = if (p - q).num.sign ≤ 0 then va else vb) := by
  refine via fun R hR => ?_
  have HP := Lib.hid hp
  have HQ := Lib.hid hq
  have SP := Lib.hid sp
  have SQ := Lib.hid sq
  obtain ⟨n, d, rfl, hn, hd⟩ := hp
  obtain ⟨m, c, rfl, hm, hc⟩ := hq
  have HN := Lib.hid hn
  have HD := Lib.hid hd
  have HM := Lib.hid hm
  have HC := Lib.hid hc
  obtain ⟨an, cn, rfl, -, -, -, -⟩ := hn.1.shape
  obtain ⟨ad, cd, rfl, -, -, -, -⟩ := hd.1.shape
  obtain ⟨am, cm, rfl, -, -, -, -⟩ := hm.1.shape
  obtain ⟨ac, cc, rfl, -, -, -, -⟩ := hc.1.shape
  clear hn hd hm hc sp sq
  obtain ⟨w1, hw1, b1, c1, c2, c3, z1⟩ := box2R w (.bool (decide (p.num < 0))) (.slice an (limbs p.num.natAbs).length cn) (.slice ad (dens p.den).length cd) (.bool (decide (q.num < 0))) (.slice am (limbs q.num.natAbs).length cm) (.slice ac (dens q.den).length cc) (.bool false) (.slice none 0 0) (.slice none 0 0) 28 28 28
  have C1 := Lib.hid c1
  have C2 := Lib.hid c2
  have C3 := Lib.hid c3
  have HW := Lib.hid hw1
  obtain ⟨k0, k1, k2⟩ := c1
  obtain ⟨l0, l1, l2⟩ := c2
  clear c3 hw1
  go_enter Try.func102, Try.ntmps102
  go_upto_region 1 with (fail)
  rw [← HW.out]
  clear HW
  go_wp2_with fail
  clear k0 k1 k2 l0 l1 l2
  refine (rcmp_any (HP.out.ext b1) (HQ.out.ext b1) SP.out SQ.out).mono ?_
  rintro e w2 ⟨_, rfl, b2, rfl⟩
  generalize (p - q).num.sign = t at *
  obtain ⟨_, _, _, j0, j1, j2, g0, g1, g2⟩ := (C3.out.ext b2).cells
  obtain ⟨k0, k1, k2⟩ := C1.out.ext b2
  obtain ⟨l0, l1, l2⟩ := C2.out.ext b2
  by_cases h : t ≤ 0
  · rw [if_pos h] at hR
    have ht : decide (t ≤ 0) = true := decide_eq_true h
    clear h
    go_wp2_with fail
    refine bodyPost_ret (v := .agg #[.bool (decide (p.num < 0)), .slice an (limbs p.num.natAbs).length cn, .slice ad (dens p.den).length cd]) (by simp [results, Try.results102, go_sem, j0, j1, j2]) rfl ?_
    have xx := put3_below (Ext.trans b1 b2) (show w.heap.size ≤ w.heap.size + 1 + 1 by omega) (.bool (decide (p.num < 0))) (.slice an (limbs p.num.natAbs).length cn) (.slice ad (dens p.den).length cd)
    exact hR.out _ _ (Gives.mk xx rfl)
  · rw [if_neg h] at hR
    have ht : decide (t ≤ 0) = false := decide_eq_false h
    clear h
    go_wp2_with fail
    refine bodyPost_ret (v := .agg #[.bool (decide (q.num < 0)), .slice am (limbs q.num.natAbs).length cm, .slice ac (dens q.den).length cc]) (by simp [results, Try.results102, go_sem, j0, j1, j2]) rfl ?_
    have xx := put3_below (Ext.trans b1 b2) (show w.heap.size ≤ w.heap.size + 1 + 1 by omega) (.bool (decide (q.num < 0))) (.slice am (limbs q.num.natAbs).length cm) (.slice ac (dens q.den).length cc)
    exact hR.out _ _ (Gives.mk xx rfl)

theorem rmax_val {w : World} {va vb : Value} {p q : Rat} (hp : RdQ w va p) (hq : RdQ w vb q) (sp : Sz 10000000 p) (sq : Sz 10000000 q) :
    Calls Try.prog 103 #[va, vb] w (Gives w fun v' _ => v' = if 0 ≤ (p - q).num.sign then va else vb) := by
  refine via fun R hR => ?_
  have HP := Lib.hid hp
  have HQ := Lib.hid hq
  have SP := Lib.hid sp
  have SQ := Lib.hid sq
  obtain ⟨n, d, rfl, hn, hd⟩ := hp
  obtain ⟨m, c, rfl, hm, hc⟩ := hq
  have HN := Lib.hid hn
  have HD := Lib.hid hd
  have HM := Lib.hid hm
  have HC := Lib.hid hc
  obtain ⟨an, cn, rfl, -, -, -, -⟩ := hn.1.shape
  obtain ⟨ad, cd, rfl, -, -, -, -⟩ := hd.1.shape
  obtain ⟨am, cm, rfl, -, -, -, -⟩ := hm.1.shape
  obtain ⟨ac, cc, rfl, -, -, -, -⟩ := hc.1.shape
  clear hn hd hm hc sp sq
  obtain ⟨w1, hw1, b1, c1, c2, c3, z1⟩ := box2R w (.bool (decide (p.num < 0))) (.slice an (limbs p.num.natAbs).length cn) (.slice ad (dens p.den).length cd) (.bool (decide (q.num < 0))) (.slice am (limbs q.num.natAbs).length cm) (.slice ac (dens q.den).length cc) (.bool false) (.slice none 0 0) (.slice none 0 0) 28 28 28
  have C1 := Lib.hid c1
  have C2 := Lib.hid c2
  have C3 := Lib.hid c3
  have HW := Lib.hid hw1
  obtain ⟨k0, k1, k2⟩ := c1
  obtain ⟨l0, l1, l2⟩ := c2
  clear c3 hw1
  go_enter Try.func103, Try.ntmps103
  go_upto_region 1 with (fail)
  rw [← HW.out]
  clear HW
  go_wp2_with fail
  clear k0 k1 k2 l0 l1 l2
  refine (rcmp_any (HP.out.ext b1) (HQ.out.ext b1) SP.out SQ.out).mono ?_
  rintro e w2 ⟨_, rfl, b2, rfl⟩
  generalize (p - q).num.sign = t at *
  obtain ⟨_, _, _, j0, j1, j2, g0, g1, g2⟩ := (C3.out.ext b2).cells
  obtain ⟨k0, k1, k2⟩ := C1.out.ext b2
  obtain ⟨l0, l1, l2⟩ := C2.out.ext b2
  by_cases h : 0 ≤ t
  · rw [if_pos h] at hR
    have ht : decide (0 ≤ t) = true := decide_eq_true h
    clear h
    go_wp2_with fail
    refine bodyPost_ret (v := .agg #[.bool (decide (p.num < 0)), .slice an (limbs p.num.natAbs).length cn, .slice ad (dens p.den).length cd]) (by simp [results, Try.results103, go_sem, j0, j1, j2]) rfl ?_
    have xx := put3_below (Ext.trans b1 b2) (show w.heap.size ≤ w.heap.size + 1 + 1 by omega) (.bool (decide (p.num < 0))) (.slice an (limbs p.num.natAbs).length cn) (.slice ad (dens p.den).length cd)
    exact hR.out _ _ (Gives.mk xx rfl)
  · rw [if_neg h] at hR
    have ht : decide (0 ≤ t) = false := decide_eq_false h
    clear h
    go_wp2_with fail
    refine bodyPost_ret (v := .agg #[.bool (decide (q.num < 0)), .slice am (limbs q.num.natAbs).length cm, .slice ac (dens q.den).length cc]) (by simp [results, Try.results103, go_sem, j0, j1, j2]) rfl ?_
    have xx := put3_below (Ext.trans b1 b2) (show w.heap.size ≤ w.heap.size + 1 + 1 by omega) (.bool (decide (q.num < 0))) (.slice am (limbs q.num.natAbs).length cm) (.slice ac (dens q.den).length cc)
    exact hR.out _ _ (Gives.mk xx rfl)
theorem rmin_any {w : World} {va vb : Value} {p q : Rat} (hp : RdQ w va p) (hq : RdQ w vb q) (sp : Sz 10000000 p) (sq : Sz 10000000 q) :
    Calls Try.prog 102 #[va, vb] w (Gives w fun v' w' => RdQ w' v' (if (p - q).num.sign ≤ 0 then p else q)) := by
  refine (rmin_val hp hq sp sq).mono ?_
  rintro e w' ⟨_, rfl, b, rfl⟩
  refine Gives.mk b ?_
  split
  · exact hp.ext b
  · exact hq.ext b
theorem rmax_any {w : World} {va vb : Value} {p q : Rat} (hp : RdQ w va p) (hq : RdQ w vb q) (sp : Sz 10000000 p) (sq : Sz 10000000 q) :
    Calls Try.prog 103 #[va, vb] w (Gives w fun v' w' => RdQ w' v' (if 0 ≤ (p - q).num.sign then p else q)) := by
  refine (rmax_val hp hq sp sq).mono ?_
  rintro e w' ⟨_, rfl, b, rfl⟩
  refine Gives.mk b ?_
  split
  · exact hp.ext b
  · exact hq.ext b
end Go.Proofs.Ytpeeacdnjbcmiaa
