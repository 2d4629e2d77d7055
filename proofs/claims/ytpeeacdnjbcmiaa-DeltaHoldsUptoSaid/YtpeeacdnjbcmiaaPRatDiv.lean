/- rat.Div -/
import Derived.Test.YtpeeacdnjbcmiaaPRatInv
import Derived.Test.YtpeeacdnjbcmiaaPRatMul
namespace Go.Proofs.Ytpeeacdnjbcmiaa
open Go.RowKit Go.Att

theorem rdiv_no {w : World} {va vb : Value} {p q : Rat} (hp : RdQ w va p) (hq : RdQ w vb q) (h0 : q.num = 0) :
    Calls Try.prog 106 #[va, vb] w (Gives w fun v' _ => v' = .tuple #[.agg #[.bool false, .slice none 0 0, .slice none 0 0], .bool false]) := by
  refine via fun R hR => ?_
  have HQ := Lib.hid hq
  have H0 := Lib.hid h0
  obtain ⟨n, d, rfl, hn, hd⟩ := hp
  obtain ⟨m, c, rfl, hm, hc⟩ := hq
  clear hn hd hm hc h0
  obtain ⟨w1, hw1, b1, c1, c2, c3, z1⟩ := box2R w (.bool (decide (p.num < 0))) n d (.bool (decide (q.num < 0))) m c (.bool false) (.slice none 0 0) (.slice none 0 0) 28 28 28
  have C3 := Lib.hid c3
  have HW := Lib.hid hw1
  clear c1 c2 c3 hw1
  go_enter Try.func106, Try.ntmps106
  go_wp2_with fail
  rw [← HW.out]
  clear HW
  go_wp2_with fail
  refine (rinv_no (HQ.out.ext b1) H0.out).mono ?_
  rintro e w2 ⟨_, rfl, b2, rfl⟩
  obtain ⟨w3, hw3, b3, _, _, z3⟩ := box1 w2 (.bool false) (.slice none 0 0) (.slice none 0 0) 28
  have HW := Lib.hid hw3
  clear hw3
  go_upto_region 2 with (fail)
  rw [← HW.out]
  clear HW
  obtain ⟨_, _, _, j0, j1, j2, g0, g1, g2⟩ := (C3.out.ext (Ext.trans b2 b3)).cells
  go_wp2_with fail
  refine bodyPost_ret (v := .tuple #[.agg #[.bool false, .slice none 0 0, .slice none 0 0], .bool false]) (by simp [results, Try.results106, go_sem, j0, j1, j2]) rfl ?_
  exact hR.out _ _ (Gives.mk (put3_below (Ext.trans b1 (Ext.trans b2 b3)) (by omega) _ _ _) rfl)

theorem rdiv_any {w : World} {va vb : Value} {p q : Rat} (hp : RdQ w va p) (hq : RdQ w vb q) (sp : Sz 1000000 p) (sq : Sz 1000000 q) (h0 : q.num ≠ 0) :
    Calls Try.prog 106 #[va, vb] w (Gives w fun v' w' => ∃ o, v' = .tuple #[o, .bool true] ∧ OwnQ 148 w.heap.size w' o (p / q)) := by
  refine via fun R hR => ?_
  rw [Rat.div_def] at hR
  have SI := Lib.hid (sq.inv)
  have HIN := Lib.hid (@rinv_any w vb q hq (sq.le (by decide)) h0)
  generalize hi : q⁻¹ = i at *
  generalize hr : p * i = r at hR
  have HRR := Lib.hid hr
  have HQ := Lib.hid hq
  have HP := Lib.hid hp
  have H0 := Lib.hid h0
  have HI := Lib.hid hi
  clear hr hi HIN
  obtain ⟨n, d, rfl, hn, hd⟩ := hp
  obtain ⟨m, c, rfl, hm, hc⟩ := hq
  have SP := Lib.hid sp
  have SQ := Lib.hid sq
  clear hn hd hm hc h0 sp sq
  obtain ⟨w1, hw1, b1, c1, c2, c3, z1⟩ := box2R w (.bool (decide (p.num < 0))) n d (.bool (decide (q.num < 0))) m c (.bool false) (.slice none 0 0) (.slice none 0 0) 28 28 28
  have C1 := Lib.hid c1
  have C3 := Lib.hid c3
  have HW := Lib.hid hw1
  clear c1 c2 c3 hw1
  go_enter Try.func106, Try.ntmps106
  go_wp2_with fail
  rw [← HW.out]
  clear HW
  go_wp2_with fail
  refine (HI.out ▸ rinv_any (HQ.out.ext b1) (SQ.out.le (by decide)) H0.out).mono ?_
  rintro e w2 ⟨_, rfl, b2, _, rfl, n2, d2, rfl, on2, od2⟩
  have ON2 := Lib.hid on2
  have OD2 := Lib.hid od2
  clear on2 od2
  obtain ⟨an2, cn2, rfl, -, -, -, -⟩ := ON2.out.rd.1.shape
  obtain ⟨ad2, cd2, rfl, -, -, -, -⟩ := OD2.out.rd.1.shape
  obtain ⟨w3, hw3, b3, c4, _, z3⟩ := box1 w2 (.bool (decide (i.num < 0))) (.slice an2 (limbs i.num.natAbs).length cn2) (.slice ad2 (dens i.den).length cd2) 28
  have HW := Lib.hid hw3
  have C4 := Lib.hid c4
  clear hw3 c4
  go_upto_region 2 with (fail)
  rw [← HW.out]
  clear HW
  obtain ⟨k0, k1, k2⟩ := C1.out.ext (Ext.trans b2 b3)
  obtain ⟨l0, l1, l2⟩ := C4.out
  have HI3 : Hid (RdQ w3 (.agg #[.bool (decide (i.num < 0)), .slice an2 (limbs i.num.natAbs).length cn2, .slice ad2 (dens i.den).length cd2]) i) := ⟨_, _, rfl, ON2.out.rd.ext b3, OD2.out.rd.ext b3⟩
  go_wp2_with fail
  refine (HRR.out ▸ rmul_any (HP.out.ext (Ext.trans b1 (Ext.trans b2 b3))) HI3.out (SP.out.le (by decide)) (SI.out.le (by decide))).mono ?_
  rintro e w4 ⟨_, rfl, b4, n4, d4, rfl, on4, od4⟩
  have ON4 := Lib.hid on4
  have OD4 := Lib.hid od4
  clear on4 od4 k0 k1 k2 l0 l1 l2
  obtain ⟨an4, cn4, rfl, -, -, -, -⟩ := ON4.out.rd.1.shape
  obtain ⟨ad4, cd4, rfl, -, -, -, -⟩ := OD4.out.rd.1.shape
  obtain ⟨_, _, _, j0, j1, j2, g0, g1, g2⟩ := (C3.out.ext (Ext.trans b2 (Ext.trans b3 b4))).cells
  have hz := Lib.hid (Below.size (Ext.trans b2 b3))
  go_wp2_with fail
  refine bodyPost_ret (v := .tuple #[.agg #[.bool (decide (r.num < 0)), .slice an4 (limbs r.num.natAbs).length cn4, .slice ad4 (dens r.den).length cd4], .bool true]) (by simp [results, Try.results106, go_sem, j0, j1, j2]) rfl ?_
  exact hR.out _ _ (Gives.mk (put3_below (Ext.trans b1 (Ext.trans b2 (Ext.trans b3 b4))) (by omega) _ _ _) ⟨_, rfl, _, _, rfl, (ON4.out.put (by have := hz.out; omega) _ _ _).mono (by have := hz.out; omega), (OD4.out.put (by have := hz.out; omega) _ _ _).mono (by have := hz.out; omega)⟩)
end Go.Proofs.Ytpeeacdnjbcmiaa
