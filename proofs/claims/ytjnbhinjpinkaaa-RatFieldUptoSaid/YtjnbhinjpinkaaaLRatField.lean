/- RatField: rational numbers keep the laws of an ordered field. Conditions: the arguments hold together at most 1048576 values (the second form, Upto). -/
import Derived.Test.YtjnbhinjpinkaaaFrameN
import Derived.Test.YtjnbhinjpinkaaaPBoth05
import Derived.Test.YtjnbhinjpinkaaaPAwake05
import Derived.Test.YtjnbhinjpinkaaaPRatCmp
namespace Go.Proofs.Ytjnbhinjpinkaaa.ratField
open Go.ChangeShapes Go.WideShapes Go.ChangeAt Go.RowKit Go.Att

theorem rcmp_to {w : World} {va vb : Value} {p q : Rat} {t : Int} (hp : RdQ w va p) (hq : RdQ w vb q) (sp : Sz 10000000 p) (sq : Sz 10000000 q) (h : (p - q).num.sign = t) :
    Calls Try.prog 34 #[va, vb] w (Gives w fun v' _ => v' = .int .i64 t) := h ▸ rcmp_any hp hq sp sq
theorem rcmp_eq {w : World} {va vb : Value} {p q : Rat} (hp : RdQ w va p) (hq : RdQ w vb q) (sp : Sz 10000000 p) (sq : Sz 10000000 q) (h : p = q) :
    Calls Try.prog 34 #[va, vb] w (Gives w fun v' _ => v' = .int .i64 0) := rcmp_to hp hq sp sq (by rw [h, Rat.sub_self]; rfl)
theorem rsign_zero {w : World} {v : Value} {p : Rat} (hp : RdQ w v (p - p)) :
    Calls Try.prog 22 #[v] w (Gives w fun v' _ => v' = .int .i64 0) := by
  have h := rsign_any hp
  rw [Rat.sub_self] at h
  exact h
theorem add_sub_add (x y z : Rat) : x + z - (y + z) = x - y := by
  rw [Rat.sub_eq_add_neg, Rat.sub_eq_add_neg, Rat.neg_add, Rat.add_assoc, ← Rat.add_assoc z, Rat.add_comm z, Rat.add_assoc (-y), Rat.add_neg_cancel, Rat.add_zero]

set_option maxHeartbeats 8000000 in
set_option maxRecDepth 100000 in
set_option linter.unusedSimpArgs false in
theorem walk {w : World} {v0 v1 v2 : Value} {s0 s1 s2 : Bool} {x0 y0 x1 y1 x2 y2 : List Nat} (hv0 : RdN w v0 s0 x0 y0) (hx0 : x0.length ≤ 1048576) (hy0 : y0.length ≤ 1048576) (hv1 : RdN w v1 s1 x1 y1) (hx1 : x1.length ≤ 1048576) (hy1 : y1.length ≤ 1048576) (hv2 : RdN w v2 s2 x2 y2) (hx2 : x2.length ≤ 1048576) (hy2 : y2.length ≤ 1048576) :
    Calls Try.prog 6 #[v0, v1, v2] w (Gives w fun v' _ => v' = .bool true) := by
  refine via fun R hR => ?_
  have HV0 := Lib.hid hv0
  have HV1 := Lib.hid hv1
  have HV2 := Lib.hid hv2
  have SX : Hid (Sz 8 (qOf s0 x0 y0)) := by obtain ⟨_, _, _, h1, h2⟩ := hv0; exact qOf_sz h1.2 h2.2
  have SY : Hid (Sz 8 (qOf s1 x1 y1)) := by obtain ⟨_, _, _, h1, h2⟩ := hv1; exact qOf_sz h1.2 h2.2
  have SZ : Hid (Sz 8 (qOf s2 x2 y2)) := by obtain ⟨_, _, _, h1, h2⟩ := hv2; exact qOf_sz h1.2 h2.2
  obtain ⟨a0, c0, rfl, -, -⟩ := hv0
  obtain ⟨a1, c1, rfl, -, -⟩ := hv1
  obtain ⟨a2, c2, rfl, -, -⟩ := hv2
  obtain ⟨x, hp⟩ : ∃ p, p = qOf s0 x0 y0 := ⟨_, rfl⟩
  obtain ⟨y, hq⟩ : ∃ q, q = qOf s1 x1 y1 := ⟨_, rfl⟩
  obtain ⟨z, hr⟩ : ∃ q, q = qOf s2 x2 y2 := ⟨_, rfl⟩
  rw [← hp] at SX
  rw [← hq] at SY
  rw [← hr] at SZ
  have hq2 := Lib.hid hp.symm
  have hq4 := Lib.hid hq.symm
  have hq6 := Lib.hid hr.symm
  clear hp hq hr
  obtain ⟨w1, hw1, b1, h1, h2, h3, z1⟩ := box3 w (.bool s0) a0 c0 (.bool s1) a1 c1 (.bool s2) a2 c2 34 34 34
  have C1 := Lib.hid h1
  have C2 := Lib.hid h2
  have C3 := Lib.hid h3
  have HW := Lib.hid hw1
  clear h1 h2 h3 hw1
  go_enter Try.func6, Try.ntmps6
  go_wp2_with fail
  rw [← HW.out]
  clear HW
  refine (hq2 ▸ both_any (HV0.out.ext b1) (by omega) (by omega)).mono ?_
  rintro e w2 ⟨_, rfl, b2, _, _, rfl, ⟨n, d, rfl, on, od⟩, ⟨m, c, rfl, om, oc⟩⟩
  obtain ⟨an, cn, rfl, -, -, -, -⟩ := on.rd.1.shape
  obtain ⟨ad, cd, rfl, -, -, -, -⟩ := od.rd.1.shape
  obtain ⟨am, cm, rfl, -, -, -, -⟩ := om.rd.shape
  obtain ⟨ac, cc, rfl, -, -, -, -⟩ := oc.rd.shape
  obtain ⟨w3, hw, b3, c1, c2, -⟩ := box2 w2 (.bool (decide (x.num < 0))) (.slice an (limbs x.num.natAbs).length cn) (.slice ad (dens x.den).length cd) (.bool (decide (x.num < 0))) (.slice am (bitsOf x.num.natAbs).length cm) (.slice ac (bitsOf x.den).length cc) 36 43
  have HW := Lib.hid hw
  have CQ2 := Lib.hid c1
  have CP2 := Lib.hid c2
  have RQ2 : Hid (RdQ w3 (.agg #[.bool (decide (x.num < 0)), .slice an (limbs x.num.natAbs).length cn, .slice ad (dens x.den).length cd]) x) := ⟨_, _, rfl, on.rd.ext b3, od.rd.ext b3⟩
  have RP2 : Hid (RdP w3 (.agg #[.bool (decide (x.num < 0)), .slice am (bitsOf x.num.natAbs).length cm, .slice ac (bitsOf x.den).length cc]) x) := ⟨_, _, rfl, om.rd.ext b3, oc.rd.ext b3⟩
  clear hw c1 c2 on od om oc
  go_upto_region 2 with (fail)
  rw [← HW.out]
  clear HW
  generalize Value.slice an (limbs x.num.natAbs).length cn = xn2 at *
  generalize Value.slice ad (dens x.den).length cd = xd2 at *
  generalize Value.slice am (bitsOf x.num.natAbs).length cm = yn2 at *
  generalize Value.slice ac (bitsOf x.den).length cc = yd2 at *
  generalize Value.bool (decide (x.num < 0)) = xs2 at *
  obtain ⟨k0, k1, k2⟩ := C2.out.ext (Ext.trans b2 b3)
  go_wp2_with fail
  clear k0 k1 k2
  refine (hq4 ▸ both_any (HV1.out.ext (Ext.trans b1 (Ext.trans b2 b3))) (by omega) (by omega)).mono ?_
  rintro e w4 ⟨_, rfl, b4, _, _, rfl, ⟨n, d, rfl, on, od⟩, ⟨m, c, rfl, om, oc⟩⟩
  obtain ⟨an, cn, rfl, -, -, -, -⟩ := on.rd.1.shape
  obtain ⟨ad, cd, rfl, -, -, -, -⟩ := od.rd.1.shape
  obtain ⟨am, cm, rfl, -, -, -, -⟩ := om.rd.shape
  obtain ⟨ac, cc, rfl, -, -, -, -⟩ := oc.rd.shape
  obtain ⟨w5, hw, b5, c1, c2, -⟩ := box2 w4 (.bool (decide (y.num < 0))) (.slice an (limbs y.num.natAbs).length cn) (.slice ad (dens y.den).length cd) (.bool (decide (y.num < 0))) (.slice am (bitsOf y.num.natAbs).length cm) (.slice ac (bitsOf y.den).length cc) 36 43
  have HW := Lib.hid hw
  have CQ4 := Lib.hid c1
  have CP4 := Lib.hid c2
  have RQ4 : Hid (RdQ w5 (.agg #[.bool (decide (y.num < 0)), .slice an (limbs y.num.natAbs).length cn, .slice ad (dens y.den).length cd]) y) := ⟨_, _, rfl, on.rd.ext b5, od.rd.ext b5⟩
  have RP4 : Hid (RdP w5 (.agg #[.bool (decide (y.num < 0)), .slice am (bitsOf y.num.natAbs).length cm, .slice ac (bitsOf y.den).length cc]) y) := ⟨_, _, rfl, om.rd.ext b5, oc.rd.ext b5⟩
  clear hw c1 c2 on od om oc
  go_upto_region 3 with (fail)
  rw [← HW.out]
  clear HW
  generalize Value.slice an (limbs y.num.natAbs).length cn = xn4 at *
  generalize Value.slice ad (dens y.den).length cd = xd4 at *
  generalize Value.slice am (bitsOf y.num.natAbs).length cm = yn4 at *
  generalize Value.slice ac (bitsOf y.den).length cc = yd4 at *
  generalize Value.bool (decide (y.num < 0)) = xs4 at *
  obtain ⟨k0, k1, k2⟩ := C3.out.ext (Ext.trans b2 (Ext.trans b3 (Ext.trans b4 b5)))
  go_wp2_with fail
  clear k0 k1 k2
  refine (hq6 ▸ both_any (HV2.out.ext (Ext.trans b1 (Ext.trans b2 (Ext.trans b3 (Ext.trans b4 b5))))) (by omega) (by omega)).mono ?_
  rintro e w6 ⟨_, rfl, b6, _, _, rfl, ⟨n, d, rfl, on, od⟩, ⟨m, c, rfl, om, oc⟩⟩
  obtain ⟨an, cn, rfl, -, -, -, -⟩ := on.rd.1.shape
  obtain ⟨ad, cd, rfl, -, -, -, -⟩ := od.rd.1.shape
  obtain ⟨am, cm, rfl, -, -, -, -⟩ := om.rd.shape
  obtain ⟨ac, cc, rfl, -, -, -, -⟩ := oc.rd.shape
  obtain ⟨w7, hw, b7, c1, c2, -⟩ := box2 w6 (.bool (decide (z.num < 0))) (.slice an (limbs z.num.natAbs).length cn) (.slice ad (dens z.den).length cd) (.bool (decide (z.num < 0))) (.slice am (bitsOf z.num.natAbs).length cm) (.slice ac (bitsOf z.den).length cc) 36 43
  have HW := Lib.hid hw
  have CQ6 := Lib.hid c1
  have CP6 := Lib.hid c2
  have RQ6 : Hid (RdQ w7 (.agg #[.bool (decide (z.num < 0)), .slice an (limbs z.num.natAbs).length cn, .slice ad (dens z.den).length cd]) z) := ⟨_, _, rfl, on.rd.ext b7, od.rd.ext b7⟩
  have RP6 : Hid (RdP w7 (.agg #[.bool (decide (z.num < 0)), .slice am (bitsOf z.num.natAbs).length cm, .slice ac (bitsOf z.den).length cc]) z) := ⟨_, _, rfl, om.rd.ext b7, oc.rd.ext b7⟩
  clear hw c1 c2 on od om oc
  go_upto_region 4 with (fail)
  rw [← HW.out]
  clear HW
  generalize Value.slice an (limbs z.num.natAbs).length cn = xn6 at *
  generalize Value.slice ad (dens z.den).length cd = xd6 at *
  generalize Value.slice am (bitsOf z.num.natAbs).length cm = yn6 at *
  generalize Value.slice ac (bitsOf z.den).length cc = yd6 at *
  generalize Value.bool (decide (z.num < 0)) = xs6 at *
  have D1 := Lib.hid (CQ2.out.ext (Ext.trans b4 (Ext.trans b5 (Ext.trans b6 b7))))
  have D2 := Lib.hid (CQ4.out.ext (Ext.trans b6 b7))
  have D3 := Lib.hid CQ6.out
  clear C1 C2 C3 CQ2 CQ4 CQ6 CP2 CP4 CP6 RP2 RP4 RP6 HV0 HV1 HV2 hq2 hq4 hq6
  have b8 := drew_ext w7
  have XE := b8
  go_region_held3 (fun w' => (w'.cell? ⟨w2.heap.size, 0, none⟩ = some (xs2) ∧ w'.cell? ⟨w2.heap.size, 1, none⟩ = some (xn2) ∧ w'.cell? ⟨w2.heap.size, 2, none⟩ = some (xd2)) ∧ (w'.cell? ⟨w4.heap.size, 0, none⟩ = some (xs4) ∧ w'.cell? ⟨w4.heap.size, 1, none⟩ = some (xn4) ∧ w'.cell? ⟨w4.heap.size, 2, none⟩ = some (xd4)) ∧ (w'.cell? ⟨w6.heap.size, 0, none⟩ = some (xs6) ∧ w'.cell? ⟨w6.heap.size, 1, none⟩ = some (xn6) ∧ w'.cell? ⟨w6.heap.size, 2, none⟩ = some (xd6))) (exact ⟨D1.out.ext XE, D2.out.ext XE, D3.out.ext XE⟩)
    (first
     | (go_at_call 34; refine (rcmp_eq (O20.out.rd.ext (Ext.trans b21 b22)) O22.out.rd (((SX.out.mul SY.out).mul SZ.out).le (by decide)) ((SX.out.mul (SY.out.mul SZ.out)).le (by decide)) (Rat.mul_assoc x y z)).mono ?_; rintro e w23 ⟨_, rfl, b23, rfl⟩; have XE := Ext.trans XE b23)
     | (go_at_call 36; refine (rmul_any (RQ2.out.ext (Ext.trans b4 (Ext.trans b5 (Ext.trans b6 (Ext.trans b7 (Ext.trans b8 (Ext.trans b9 (Ext.trans b10 (Ext.trans b11 (Ext.trans b12 (Ext.trans b13 (Ext.trans b14 (Ext.trans b15 (Ext.trans b16 (Ext.trans b17 (Ext.trans b18 (Ext.trans b19 (Ext.trans b20 b21)))))))))))))))))) O21.out.rd (SX.out.le (by decide)) ((SY.out.mul SZ.out).le (by decide))).mono ?_; rintro e w22 ⟨v22, rfl, b22, o22⟩; have O22 := Lib.hid o22; clear o22; have XE := Ext.trans XE b22)
     | (go_at_call 36; refine (rmul_any (RQ4.out.ext (Ext.trans b6 (Ext.trans b7 (Ext.trans b8 (Ext.trans b9 (Ext.trans b10 (Ext.trans b11 (Ext.trans b12 (Ext.trans b13 (Ext.trans b14 (Ext.trans b15 (Ext.trans b16 (Ext.trans b17 (Ext.trans b18 (Ext.trans b19 b20))))))))))))))) (RQ6.out.ext (Ext.trans b8 (Ext.trans b9 (Ext.trans b10 (Ext.trans b11 (Ext.trans b12 (Ext.trans b13 (Ext.trans b14 (Ext.trans b15 (Ext.trans b16 (Ext.trans b17 (Ext.trans b18 (Ext.trans b19 b20))))))))))))) (SY.out.le (by decide)) (SZ.out.le (by decide))).mono ?_; rintro e w21 ⟨v21, rfl, b21, o21⟩; have O21 := Lib.hid o21; clear o21; have XE := Ext.trans XE b21)
     | (go_at_call 36; refine (rmul_any O19.out.rd (RQ6.out.ext (Ext.trans b8 (Ext.trans b9 (Ext.trans b10 (Ext.trans b11 (Ext.trans b12 (Ext.trans b13 (Ext.trans b14 (Ext.trans b15 (Ext.trans b16 (Ext.trans b17 (Ext.trans b18 b19)))))))))))) ((SX.out.mul SY.out).le (by decide)) (SZ.out.le (by decide))).mono ?_; rintro e w20 ⟨v20, rfl, b20, o20⟩; have O20 := Lib.hid o20; clear o20; have XE := Ext.trans XE b20)
     | (go_at_call 36; refine (rmul_any (RQ2.out.ext (Ext.trans b4 (Ext.trans b5 (Ext.trans b6 (Ext.trans b7 (Ext.trans b8 (Ext.trans b9 (Ext.trans b10 (Ext.trans b11 (Ext.trans b12 (Ext.trans b13 (Ext.trans b14 (Ext.trans b15 (Ext.trans b16 (Ext.trans b17 b18))))))))))))))) (RQ4.out.ext (Ext.trans b6 (Ext.trans b7 (Ext.trans b8 (Ext.trans b9 (Ext.trans b10 (Ext.trans b11 (Ext.trans b12 (Ext.trans b13 (Ext.trans b14 (Ext.trans b15 (Ext.trans b16 (Ext.trans b17 b18))))))))))))) (SX.out.le (by decide)) (SY.out.le (by decide))).mono ?_; rintro e w19 ⟨v19, rfl, b19, o19⟩; have O19 := Lib.hid o19; clear o19; have XE := Ext.trans XE b19)
     | (go_at_call 34; refine (rcmp_eq (O14.out.rd.ext (Ext.trans b15 (Ext.trans b16 b17))) O17.out.rd ((SX.out.mul (SY.out.add SZ.out)).le (by decide)) (((SX.out.mul SY.out).add (SX.out.mul SZ.out)).le (by decide)) (Rat.mul_add x y z)).mono ?_; rintro e w18 ⟨_, rfl, b18, rfl⟩; have XE := Ext.trans XE b18)
     | (go_at_call 35; refine (radd_any (O15.out.rd.ext b16) O16.out.rd ((SX.out.mul SY.out).le (by decide)) ((SX.out.mul SZ.out).le (by decide))).mono ?_; rintro e w17 ⟨v17, rfl, b17, o17⟩; have O17 := Lib.hid o17; clear o17; have XE := Ext.trans XE b17)
     | (go_at_call 36; refine (rmul_any (RQ2.out.ext (Ext.trans b4 (Ext.trans b5 (Ext.trans b6 (Ext.trans b7 (Ext.trans b8 (Ext.trans b9 (Ext.trans b10 (Ext.trans b11 (Ext.trans b12 (Ext.trans b13 (Ext.trans b14 b15)))))))))))) (RQ6.out.ext (Ext.trans b8 (Ext.trans b9 (Ext.trans b10 (Ext.trans b11 (Ext.trans b12 (Ext.trans b13 (Ext.trans b14 b15)))))))) (SX.out.le (by decide)) (SZ.out.le (by decide))).mono ?_; rintro e w16 ⟨v16, rfl, b16, o16⟩; have O16 := Lib.hid o16; clear o16; have XE := Ext.trans XE b16)
     | (go_at_call 36; refine (rmul_any (RQ2.out.ext (Ext.trans b4 (Ext.trans b5 (Ext.trans b6 (Ext.trans b7 (Ext.trans b8 (Ext.trans b9 (Ext.trans b10 (Ext.trans b11 (Ext.trans b12 (Ext.trans b13 b14))))))))))) (RQ4.out.ext (Ext.trans b6 (Ext.trans b7 (Ext.trans b8 (Ext.trans b9 (Ext.trans b10 (Ext.trans b11 (Ext.trans b12 (Ext.trans b13 b14))))))))) (SX.out.le (by decide)) (SY.out.le (by decide))).mono ?_; rintro e w15 ⟨v15, rfl, b15, o15⟩; have O15 := Lib.hid o15; clear o15; have XE := Ext.trans XE b15)
     | (go_at_call 36; refine (rmul_any (RQ2.out.ext (Ext.trans b4 (Ext.trans b5 (Ext.trans b6 (Ext.trans b7 (Ext.trans b8 (Ext.trans b9 (Ext.trans b10 (Ext.trans b11 (Ext.trans b12 b13)))))))))) O13.out.rd (SX.out.le (by decide)) ((SY.out.add SZ.out).le (by decide))).mono ?_; rintro e w14 ⟨v14, rfl, b14, o14⟩; have O14 := Lib.hid o14; clear o14; have XE := Ext.trans XE b14)
     | (go_at_call 35; refine (radd_any (RQ4.out.ext (Ext.trans b6 (Ext.trans b7 (Ext.trans b8 (Ext.trans b9 (Ext.trans b10 (Ext.trans b11 b12))))))) (RQ6.out.ext (Ext.trans b8 (Ext.trans b9 (Ext.trans b10 (Ext.trans b11 b12))))) (SY.out.le (by decide)) (SZ.out.le (by decide))).mono ?_; rintro e w13 ⟨v13, rfl, b13, o13⟩; have O13 := Lib.hid o13; clear o13; have XE := Ext.trans XE b13)
     | (go_at_call 34; refine (rcmp_eq (O10.out.rd.ext b11) O11.out.rd ((SX.out.add SY.out).le (by decide)) ((SY.out.add SX.out).le (by decide)) (Rat.add_comm x y)).mono ?_; rintro e w12 ⟨_, rfl, b12, rfl⟩; have XE := Ext.trans XE b12)
     | (go_at_call 35; refine (radd_any (RQ4.out.ext (Ext.trans b6 (Ext.trans b7 (Ext.trans b8 (Ext.trans b9 b10))))) (RQ2.out.ext (Ext.trans b4 (Ext.trans b5 (Ext.trans b6 (Ext.trans b7 (Ext.trans b8 (Ext.trans b9 b10))))))) (SY.out.le (by decide)) (SX.out.le (by decide))).mono ?_; rintro e w11 ⟨v11, rfl, b11, o11⟩; have O11 := Lib.hid o11; clear o11; have XE := Ext.trans XE b11)
     | (go_at_call 35; refine (radd_any (RQ2.out.ext (Ext.trans b4 (Ext.trans b5 (Ext.trans b6 (Ext.trans b7 (Ext.trans b8 b9)))))) (RQ4.out.ext (Ext.trans b6 (Ext.trans b7 (Ext.trans b8 b9)))) (SX.out.le (by decide)) (SY.out.le (by decide))).mono ?_; rintro e w10 ⟨v10, rfl, b10, o10⟩; have O10 := Lib.hid o10; clear o10; have XE := Ext.trans XE b10)
     | (go_at_call 25; refine (awake05).mono ?_; rintro e w9 ⟨_, rfl, b9, rfl⟩; have XE := Ext.trans XE b9))
  clear O10 O11 O13 O14 O15 O16 O17 O19 O20 O21 O22
  have F1 := Lib.hid (D1.out.ext (Ext.trans b8 (Ext.trans b9 (Ext.trans b10 (Ext.trans b11 (Ext.trans b12 (Ext.trans b13 (Ext.trans b14 (Ext.trans b15 (Ext.trans b16 (Ext.trans b17 (Ext.trans b18 (Ext.trans b19 (Ext.trans b20 (Ext.trans b21 (Ext.trans b22 b23))))))))))))))))
  have F2 := Lib.hid (D2.out.ext (Ext.trans b8 (Ext.trans b9 (Ext.trans b10 (Ext.trans b11 (Ext.trans b12 (Ext.trans b13 (Ext.trans b14 (Ext.trans b15 (Ext.trans b16 (Ext.trans b17 (Ext.trans b18 (Ext.trans b19 (Ext.trans b20 (Ext.trans b21 (Ext.trans b22 b23))))))))))))))))
  have F3 := Lib.hid (D3.out.ext (Ext.trans b8 (Ext.trans b9 (Ext.trans b10 (Ext.trans b11 (Ext.trans b12 (Ext.trans b13 (Ext.trans b14 (Ext.trans b15 (Ext.trans b16 (Ext.trans b17 (Ext.trans b18 (Ext.trans b19 (Ext.trans b20 (Ext.trans b21 (Ext.trans b22 b23))))))))))))))))
  have B23 := Lib.hid (Ext.trans b1 (Ext.trans b2 (Ext.trans b3 (Ext.trans b4 (Ext.trans b5 (Ext.trans b6 (Ext.trans b7 (Ext.trans b8 (Ext.trans b9 (Ext.trans b10 (Ext.trans b11 (Ext.trans b12 (Ext.trans b13 (Ext.trans b14 (Ext.trans b15 (Ext.trans b16 (Ext.trans b17 (Ext.trans b18 (Ext.trans b19 (Ext.trans b20 (Ext.trans b21 (Ext.trans b22 b23))))))))))))))))))))))
  have G1 := Lib.hid (RQ2.out.ext (Ext.trans b4 (Ext.trans b5 (Ext.trans b6 (Ext.trans b7 (Ext.trans b8 (Ext.trans b9 (Ext.trans b10 (Ext.trans b11 (Ext.trans b12 (Ext.trans b13 (Ext.trans b14 (Ext.trans b15 (Ext.trans b16 (Ext.trans b17 (Ext.trans b18 (Ext.trans b19 (Ext.trans b20 (Ext.trans b21 (Ext.trans b22 b23))))))))))))))))))))
  have G2 := Lib.hid (RQ4.out.ext (Ext.trans b6 (Ext.trans b7 (Ext.trans b8 (Ext.trans b9 (Ext.trans b10 (Ext.trans b11 (Ext.trans b12 (Ext.trans b13 (Ext.trans b14 (Ext.trans b15 (Ext.trans b16 (Ext.trans b17 (Ext.trans b18 (Ext.trans b19 (Ext.trans b20 (Ext.trans b21 (Ext.trans b22 b23))))))))))))))))))
  have G3 := Lib.hid (RQ6.out.ext (Ext.trans b8 (Ext.trans b9 (Ext.trans b10 (Ext.trans b11 (Ext.trans b12 (Ext.trans b13 (Ext.trans b14 (Ext.trans b15 (Ext.trans b16 (Ext.trans b17 (Ext.trans b18 (Ext.trans b19 (Ext.trans b20 (Ext.trans b21 (Ext.trans b22 b23))))))))))))))))
  clear D1 D2 D3 RQ2 RQ4 RQ6
  trace_state
  have hsig : ∀ t, (x - y).num.sign = t → (x + z - (y + z)).num.sign = t := fun t h => by rw [add_sub_add, h]
  generalize hS : (x - y).num.sign = t at hsig
  have HS := Lib.hid hS
  have HT := Lib.hid (hsig t rfl)
  clear hS hsig
  go_upto_region 6 with (fail)
  go_cut [85] (fun s85 wx => s85 = .bool false ∧ Ext w23 wx)
  case first =>
    by_cases ht : t ≤ 0
    · have ht1 : decide (t ≤ 0) = true := decide_eq_true ht
      have ht2 : decide (0 < t) = false := decide_eq_false (by omega)
      clear ht
      have b24 := drew_ext w23
      have XE := b24
      go_region_held3 (fun w' => (w'.cell? ⟨w2.heap.size, 0, none⟩ = some (xs2) ∧ w'.cell? ⟨w2.heap.size, 1, none⟩ = some (xn2) ∧ w'.cell? ⟨w2.heap.size, 2, none⟩ = some (xd2)) ∧ (w'.cell? ⟨w4.heap.size, 0, none⟩ = some (xs4) ∧ w'.cell? ⟨w4.heap.size, 1, none⟩ = some (xn4) ∧ w'.cell? ⟨w4.heap.size, 2, none⟩ = some (xd4)) ∧ (w'.cell? ⟨w6.heap.size, 0, none⟩ = some (xs6) ∧ w'.cell? ⟨w6.heap.size, 1, none⟩ = some (xn6) ∧ w'.cell? ⟨w6.heap.size, 2, none⟩ = some (xd6))) (exact ⟨F1.out.ext XE, F2.out.ext XE, F3.out.ext XE⟩)
        (first
         | (go_at_call 34; refine (rcmp_to (O26.out.rd.ext b27) O27.out.rd ((SX.out.add SZ.out).le (by decide)) ((SY.out.add SZ.out).le (by decide)) HT.out).mono ?_; rintro e w28 ⟨_, rfl, b28, rfl⟩; have XE := Ext.trans XE b28)
         | (go_at_call 35; refine (radd_any (G2.out.ext (Ext.trans b24 (Ext.trans b25 b26))) (G3.out.ext (Ext.trans b24 (Ext.trans b25 b26))) (SY.out.le (by decide)) (SZ.out.le (by decide))).mono ?_; rintro e w27 ⟨v27, rfl, b27, o27⟩; have O27 := Lib.hid o27; clear o27; have XE := Ext.trans XE b27)
         | (go_at_call 35; refine (radd_any (G1.out.ext (Ext.trans b24 b25)) (G3.out.ext (Ext.trans b24 b25)) (SX.out.le (by decide)) (SZ.out.le (by decide))).mono ?_; rintro e w26 ⟨v26, rfl, b26, o26⟩; have O26 := Lib.hid o26; clear o26; have XE := Ext.trans XE b26)
         | (go_at_call 34; refine (rcmp_to (G1.out.ext b24) (G2.out.ext b24) (SX.out.le (by decide)) (SY.out.le (by decide)) HS.out).mono ?_; rintro e w25 ⟨_, rfl, b25, rfl⟩; have XE := Ext.trans XE b25))
      go_wp2_with fail
      go_meet
      exact ⟨rfl, (Ext.trans b24 (Ext.trans b25 (Ext.trans b26 (Ext.trans b27 b28))))⟩
    · have ht1 : decide (t ≤ 0) = false := decide_eq_false ht
      clear ht
      have b24 := drew_ext w23
      have XE := b24
      refine wp_region_noPanic ?_
      refine wp_region_held_drew (S := fun w' => (w'.cell? ⟨w2.heap.size, 0, none⟩ = some (xs2) ∧ w'.cell? ⟨w2.heap.size, 1, none⟩ = some (xn2) ∧ w'.cell? ⟨w2.heap.size, 2, none⟩ = some (xd2)) ∧ (w'.cell? ⟨w4.heap.size, 0, none⟩ = some (xs4) ∧ w'.cell? ⟨w4.heap.size, 1, none⟩ = some (xn4) ∧ w'.cell? ⟨w4.heap.size, 2, none⟩ = some (xd4)) ∧ (w'.cell? ⟨w6.heap.size, 0, none⟩ = some (xs6) ∧ w'.cell? ⟨w6.heap.size, 1, none⟩ = some (xn6) ∧ w'.cell? ⟨w6.heap.size, 2, none⟩ = some (xd6))) (by kernel_rfl) (⟨F1.out.ext XE, F2.out.ext XE, F3.out.ext XE⟩) (fun hHeld => ?_)
      refine wpAnyH_take (i := 0) (v := ?_) rfl (by kernel_rfl) (by kernel_rfl) (by kernel_rfl) (fun _ _ _ h => h) (Or.inl ⟨by rfl, fun w0 hSw => ?_⟩) hHeld ?_
      rotate_left
      · (try dsimp only at hSw)
        go_simp
        try with_reducible rfl
      simp only [Act.put, List.getElem_toArray, List.getElem_cons_succ, List.getElem_cons_zero, List.setIfInBounds_toArray, List.set_cons_zero, List.set_cons_succ]
      refine wpAnyH_take (i := 1) (v := ?_) rfl (by kernel_rfl) (by kernel_rfl) (by kernel_rfl) (fun _ _ _ h => h) (Or.inl ⟨by rfl, fun w0 hSw => ?_⟩) hHeld ?_
      rotate_left
      · (try dsimp only at hSw)
        go_simp
        try with_reducible rfl
      simp only [Act.put, List.getElem_toArray, List.getElem_cons_succ, List.getElem_cons_zero, List.setIfInBounds_toArray, List.set_cons_zero, List.set_cons_succ]
      refine wpAnyH_ready (rs := [2]) (by kernel_rfl) (by simp) ?_
      refine AllReadyH.cons (o := _) rfl (fun K hK => ?_) AllReadyH.nil
      go_simp
      go_at_call 34; refine (rcmp_to (G1.out.ext b24) (G2.out.ext b24) (SX.out.le (by decide)) (SY.out.le (by decide)) HS.out).mono ?_; rintro e w25 ⟨_, rfl, b25, rfl⟩; have XE := Ext.trans XE b25
      go_wp2_with fail
      refine hK.out _ _ (⟨F1.out.ext XE, F2.out.ext XE, F3.out.ext XE⟩) (fun hHeld => ?_)
      clear hK K
      try simp only [Act.put, List.getElem_toArray, List.getElem_cons_succ, List.getElem_cons_zero, List.setIfInBounds_toArray, List.set_cons_zero, List.set_cons_succ]
      refine wpAnyH_take (i := 3) (v := ?_) rfl (by kernel_rfl) (by kernel_rfl) (by kernel_rfl) (fun _ _ _ h => h) (Or.inl ⟨by rfl, fun w0 hSw => ?_⟩) hHeld ?_
      rotate_left
      · (try dsimp only at hSw)
        go_simp
        try with_reducible rfl
      simp only [Act.put, List.getElem_toArray, List.getElem_cons_succ, List.getElem_cons_zero, List.setIfInBounds_toArray, List.set_cons_zero, List.set_cons_succ]
      refine wpAnyH_take (i := 4) (v := ?_) rfl (by kernel_rfl) (by kernel_rfl) (by kernel_rfl) (fun _ _ _ h => h) (Or.inl ⟨by rfl, fun w0 hSw => ?_⟩) hHeld ?_
      rotate_left
      · (try dsimp only at hSw)
        go_simp
        try with_reducible rfl
      simp only [Act.put, List.getElem_toArray, List.getElem_cons_succ, List.getElem_cons_zero, List.setIfInBounds_toArray, List.set_cons_zero, List.set_cons_succ]
      refine wpAnyH_take (i := 5) rfl (by kernel_rfl) (by kernel_rfl) (by kernel_rfl) (fun _ _ _ h => h) (Or.inr ⟨by rfl, rfl⟩) hHeld ?_
      simp only [Act.put, List.getElem_toArray, List.getElem_cons_succ, List.getElem_cons_zero, List.setIfInBounds_toArray, List.set_cons_zero, List.set_cons_succ]
      refine wpAnyH_take (i := 6) rfl (by kernel_rfl) (by kernel_rfl) (by kernel_rfl) (fun _ _ _ h => h) (Or.inr ⟨by rfl, rfl⟩) hHeld ?_
      simp only [Act.put, List.getElem_toArray, List.getElem_cons_succ, List.getElem_cons_zero, List.setIfInBounds_toArray, List.set_cons_zero, List.set_cons_succ]
      refine wpAnyH_take (i := 7) rfl (by kernel_rfl) (by kernel_rfl) (by kernel_rfl) (fun _ _ _ h => h) (Or.inr ⟨by rfl, rfl⟩) hHeld ?_
      simp only [Act.put, List.getElem_toArray, List.getElem_cons_succ, List.getElem_cons_zero, List.setIfInBounds_toArray, List.set_cons_zero, List.set_cons_succ]
      refine wpAnyH_take (i := 8) rfl (by kernel_rfl) (by kernel_rfl) (by kernel_rfl) (fun _ _ _ h => h) (Or.inr ⟨by rfl, rfl⟩) hHeld ?_
      simp only [Act.put, List.getElem_toArray, List.getElem_cons_succ, List.getElem_cons_zero, List.setIfInBounds_toArray, List.set_cons_zero, List.set_cons_succ]
      refine wpAnyH_take (i := 9) rfl (by kernel_rfl) (by kernel_rfl) (by kernel_rfl) (fun _ _ _ h => h) (Or.inr ⟨by rfl, rfl⟩) hHeld ?_
      simp only [Act.put, List.getElem_toArray, List.getElem_cons_succ, List.getElem_cons_zero, List.setIfInBounds_toArray, List.set_cons_zero, List.set_cons_succ]
      refine wpAnyH_take (i := 10) rfl (by kernel_rfl) (by kernel_rfl) (by kernel_rfl) (fun _ _ _ h => h) (Or.inr ⟨by rfl, rfl⟩) hHeld ?_
      simp only [Act.put, List.getElem_toArray, List.getElem_cons_succ, List.getElem_cons_zero, List.setIfInBounds_toArray, List.set_cons_zero, List.set_cons_succ]
      refine wpAnyH_take (i := 11) rfl (by kernel_rfl) (by kernel_rfl) (by kernel_rfl) (fun _ _ _ h => h) (Or.inr ⟨by rfl, rfl⟩) hHeld ?_
      simp only [Act.put, List.getElem_toArray, List.getElem_cons_succ, List.getElem_cons_zero, List.setIfInBounds_toArray, List.set_cons_zero, List.set_cons_succ]
      refine wpAnyH_take (i := 12) rfl (by kernel_rfl) (by kernel_rfl) (by kernel_rfl) (fun _ _ _ h => h) (Or.inr ⟨by rfl, rfl⟩) hHeld ?_
      simp only [Act.put, List.getElem_toArray, List.getElem_cons_succ, List.getElem_cons_zero, List.setIfInBounds_toArray, List.set_cons_zero, List.set_cons_succ]
      refine wpAnyH_take (i := 13) (v := ?_) rfl (by kernel_rfl) (by kernel_rfl) (by kernel_rfl) (fun _ _ _ h => h) (Or.inl ⟨by rfl, fun w0 hSw => ?_⟩) hHeld ?_
      rotate_left
      · (try dsimp only at hSw)
        go_simp
        try with_reducible rfl
      simp only [Act.put, List.getElem_toArray, List.getElem_cons_succ, List.getElem_cons_zero, List.setIfInBounds_toArray, List.set_cons_zero, List.set_cons_succ]
      refine wpAnyH_done (by kernel_rfl) ?_ _
      refine NoPanic.normal ?_
      go_wp2_with fail
      go_meet
      exact ⟨rfl, (Ext.trans b24 b25)⟩
  case rest =>
    obtain ⟨rfl, b24⟩ := hcut
    clear HS HT
    generalize wc = w24 at *
    have F4 := Lib.hid (F1.out.ext b24)
    have F5 := Lib.hid (F2.out.ext b24)
    obtain ⟨k0, k1, k2⟩ := F4.out
    obtain ⟨l0, l1, l2⟩ := F5.out
    by_cases h0 : y.num = 0
    · have H0 := Lib.hid h0
      clear h0
      go_wp2_with fail
      clear k0 k1 k2 l0 l1 l2
      refine (rdiv_no (G1.out.ext b24) (G2.out.ext b24) H0.out).mono ?_
      rintro e w25 ⟨_, rfl, b25, rfl⟩
      obtain ⟨w26, hw, b26, -, -, -⟩ := box1 w25 (.bool false) (.slice none 0 0) (.slice none 0 0) 36
      have HW := Lib.hid hw
      clear hw
      go_upto_region 9 with (fail)
      rw [← HW.out]
      clear HW
      obtain ⟨l0, l1, l2⟩ := F5.out.ext (Ext.trans b25 b26)
      go_wp2_with fail
      clear l0 l1 l2
      refine (rsign_any (G2.out.ext (Ext.trans b24 (Ext.trans b25 b26)))).mono ?_
      rintro e w27 ⟨_, rfl, b27, rfl⟩
      rw [show y.num.sign = 0 by rw [H0.out]; rfl]
      go_wp2_with fail
      exact hR.out _ _ (Gives.mk (Ext.trans B23.out (Ext.trans b24 (Ext.trans b25 (Ext.trans b26 b27)))) rfl)
    · have hd : Hid (x / y * y = x) := Rat.div_mul_cancel (fun h => h0 (by rw [h]; rfl))
      have SD : Hid (Sz 17 (x / y)) := by rw [Rat.div_def]; exact SX.out.mul SY.out.inv
      have hD : Hid (∀ {w va vb}, RdQ w va x → RdQ w vb y → Calls Try.prog 32 #[va, vb] w (Gives w fun v' w' => ∃ o, v' = .tuple #[o, .bool true] ∧ OwnQ 90 w.heap.size w' o (x / y))) := fun h k => rdiv_any h k (SX.out.le (by decide)) (SY.out.le (by decide)) h0
      generalize x / y = d at *
      clear h0
      go_wp2_with fail
      clear k0 k1 k2 l0 l1 l2
      refine (hD.out (G1.out.ext b24) (G2.out.ext b24)).mono ?_
      rintro e w25 ⟨_, rfl, b25, _, rfl, n25, d25, rfl, on25, od25⟩
      obtain ⟨an25, cn25, rfl, -, -, -, -⟩ := on25.rd.1.shape
      obtain ⟨ad25, cd25, rfl, -, -, -, -⟩ := od25.rd.1.shape
      obtain ⟨w26, hw, b26, c1, -, -⟩ := box1 w25 (.bool (decide (d.num < 0))) (.slice an25 (limbs d.num.natAbs).length cn25) (.slice ad25 (dens d.den).length cd25) 36
      have HW := Lib.hid hw
      have C25 := Lib.hid c1
      have RI25 : Hid (RdQ w26 (.agg #[.bool (decide (d.num < 0)), .slice an25 (limbs d.num.natAbs).length cn25, .slice ad25 (dens d.den).length cd25]) d) := ⟨_, _, rfl, on25.rd.ext b26, od25.rd.ext b26⟩
      clear hw c1 on25 od25
      go_upto_region 9 with (fail)
      rw [← HW.out]
      clear HW
      generalize Value.slice an25 (limbs d.num.natAbs).length cn25 = xn25 at *
      generalize Value.slice ad25 (dens d.den).length cd25 = xd25 at *
      generalize Value.bool (decide (d.num < 0)) = xs25 at *
      have F6 := Lib.hid (F4.out.ext (Ext.trans b25 b26))
      have F7 := Lib.hid (F5.out.ext (Ext.trans b25 b26))
      go_upto_region 11 with (fail)
      have b27 := drew_ext w26
      have XE := b27
      go_region_held3 (fun w' => (w'.cell? ⟨w25.heap.size, 0, none⟩ = some (xs25) ∧ w'.cell? ⟨w25.heap.size, 1, none⟩ = some (xn25) ∧ w'.cell? ⟨w25.heap.size, 2, none⟩ = some (xd25)) ∧ (w'.cell? ⟨w2.heap.size, 0, none⟩ = some (xs2) ∧ w'.cell? ⟨w2.heap.size, 1, none⟩ = some (xn2) ∧ w'.cell? ⟨w2.heap.size, 2, none⟩ = some (xd2)) ∧ (w'.cell? ⟨w4.heap.size, 0, none⟩ = some (xs4) ∧ w'.cell? ⟨w4.heap.size, 1, none⟩ = some (xn4) ∧ w'.cell? ⟨w4.heap.size, 2, none⟩ = some (xd4))) (exact ⟨C25.out.ext XE, F6.out.ext XE, F7.out.ext XE⟩)
        (first
         | (go_at_call 22; refine (rsign_zero O30.out.rd).mono ?_; rintro e w31 ⟨_, rfl, b31, rfl⟩; have XE := Ext.trans XE b31)
         | (go_at_call 37; refine (rsub_any (G1.out.ext (Ext.trans b24 (Ext.trans b25 (Ext.trans b26 (Ext.trans b27 (Ext.trans b28 b29)))))) (G1.out.ext (Ext.trans b24 (Ext.trans b25 (Ext.trans b26 (Ext.trans b27 (Ext.trans b28 b29)))))) (SX.out.le (by decide)) (SX.out.le (by decide))).mono ?_; rintro e w30 ⟨v30, rfl, b30, o30⟩; have O30 := Lib.hid o30; clear o30; have XE := Ext.trans XE b30)
         | (go_at_call 34; refine (rcmp_eq O28.out.rd (G1.out.ext (Ext.trans b24 (Ext.trans b25 (Ext.trans b26 (Ext.trans b27 b28))))) ((SD.out.mul SY.out).le (by decide)) (SX.out.le (by decide)) hd.out).mono ?_; rintro e w29 ⟨_, rfl, b29, rfl⟩; have XE := Ext.trans XE b29)
         | (go_at_call 36; refine (rmul_any (RI25.out.ext b27) (G2.out.ext (Ext.trans b24 (Ext.trans b25 (Ext.trans b26 b27)))) (SD.out.le (by decide)) (SY.out.le (by decide))).mono ?_; rintro e w28 ⟨v28, rfl, b28, o28⟩; have O28 := Lib.hid o28; clear o28; have XE := Ext.trans XE b28))
      go_wp2_with fail
      exact hR.out _ _ (Gives.mk (Ext.trans B23.out (Ext.trans b24 (Ext.trans b25 (Ext.trans b26 (Ext.trans b27 (Ext.trans b28 (Ext.trans b29 (Ext.trans b30 b31)))))))) rfl)
theorem own : ownKnob Try.prog.godebug = none := by kernel_rfl
theorem laidOut : laidOutB Try.prog = true := by kernel_rfl

set_option maxRecDepth 100000 in
theorem contract (H : Type) (enc : TypeId × Value → H) (W : World) (base : Nat) (args : Array Value) (ds gs : List (DataW H)) (before : List MemPlace)
    (hval : ∀ (j : Nat) t v, Try.f6.params[j]? = some t → args[j]? = some v → Value.okWide Try.prog W .any base t v)
    (hW : DataW.Whole enc Try.prog Try.f6.params.toList Rows.ratFieldSpec.vars false W args.toList ds gs before) (hk : Rows.uptoSmall H (ds ++ gs) = true) :
    Calls Try.prog 6 args W fun e W' => ∃ v, e = .returned v ∧ Rows.ratFieldSpec.post enc Try.prog Try.f6 false true false false W args v W' := by
  have hW' := hW
  obtain ⟨p, q, hA0, hV, rfl, hfz, hnd⟩ := hW
  have hA : DataW.TrodAll enc Try.prog W 0 (fun _ => true) true Try.f6.params.toList args.toList ds p := hA0
  rw [Try.params6] at hA hval
  obtain ⟨v0, vs0, d0, ds0, p0, q0, hargs, rfl, rfl, h0, r0⟩ := trodAll_cons hA
  obtain ⟨v1, vs1, d1, ds1, p1, q1, rfl, rfl, rfl, h1, r1⟩ := trodAll_cons r0
  obtain ⟨v2, vs2, d2, ds2, p2, q2, rfl, rfl, rfl, h2, r2⟩ := trodAll_cons r1
  obtain ⟨rfl, rfl, rfl⟩ := trodAll_nil r2
  obtain rfl : args = #[v0, v1, v2] := by cases args; simp_all
  obtain ⟨rfl, rfl⟩ := trodVars_none hV
  have hb := bulk_small hk
  simp only [List.append_nil, bulk_cons, bulk_nil] at hb
  have k0 := h0
  have lt0 : ∀ x ∈ p0, x.block < W.heap.size := by obtain ⟨m, hm⟩ := k0; exact DataW.trod_lt m _ _ _ hm
  obtain ⟨s0, x0, y0, rd0, len0⟩ := open_N (hval 0 34 v0 rfl rfl) h0
  have k1 := h1
  have lt1 : ∀ x ∈ p1, x.block < W.heap.size := by obtain ⟨m, hm⟩ := k1; exact DataW.trod_lt m _ _ _ hm
  obtain ⟨s1, x1, y1, rd1, len1⟩ := open_N (hval 1 34 v1 rfl rfl) h1
  have k2 := h2
  have lt2 : ∀ x ∈ p2, x.block < W.heap.size := by obtain ⟨m, hm⟩ := k2; exact DataW.trod_lt m _ _ _ hm
  obtain ⟨s2, x2, y2, rd2, len2⟩ := open_N (hval 2 34 v2 rfl rfl) h2
  clear hA0
  refine (walk rd0 (by omega) (by omega) rd1 (by omega) (by omega) rd2 (by omega) (by omega)).mono fun e W' ⟨v, he, bel, hv⟩ => ?_
  subst he hv
  exact ⟨_, rfl, _, _, _, [], _, [], hW', trodAll_mk1 (shut_bool Try.underlying4 _), (trodAll_cons_mk (Below.trod laidOut (by kernel_rfl) (of_decide_eq_true (by kernel_rfl)) k0 bel lt0) (trodAll_cons_mk (Below.trod laidOut (by kernel_rfl) (of_decide_eq_true (by kernel_rfl)) k1 bel lt1) (trodAll_cons_mk (Below.trod laidOut (by kernel_rfl) (of_decide_eq_true (by kernel_rfl)) k2 bel lt2) trodAll_mk0))), rfl, bel.frame _, fun h => by cases h⟩

set_option maxRecDepth 100000 in
theorem lifted (os : Os) (started : os.Started) (H : Type) (enc : TypeId × Value → H) (F : Stop.Interp) :
    ReturnsInHanded {} Try.checked os 6 .any ((Rows.OpenSpec.upto Rows.ratFieldSpec).pre6 enc Try.prog Try.f6 Rows.ratFieldUptoRow.domain false) (((Rows.OpenSpec.upto Rows.ratFieldSpec).at F).post enc Try.prog Try.f6 false true false false) := by
  refine returnsInHanded_of_cond (C := Try.checked) (s := Rows.OpenSpec.upto Rows.ratFieldSpec) (k := Rows.uptoSmall) rfl own started (by kernel_rfl) Try.func6
    (OpenSpec.witness (enc := enc) (C := Try.checked) (s := Rows.OpenSpec.upto Rows.ratFieldSpec) (k := Rows.uptoSmall) rfl false ⟨#[], #[.agg #[.bool false, .slice none 0 0, .slice none 0 0], .agg #[.bool false, .slice none 0 0, .slice none 0 0], .agg #[.bool false, .slice none 0 0, .slice none 0 0]], []⟩ 8 (by kernel_rfl) (by kernel_rfl) (by kernel_rfl)
      (x := ([.agg [.lit (.bool false), .nil, .nil], .agg [.lit (.bool false), .nil, .nil], .agg [.lit (.bool false), .nil, .nil]], [], [])) (by kernel_rfl) rfl (by kernel_rfl)) ?_
  intro W base args ds gs before hval hW _ hk _
  exact contract H enc W base args ds gs before hval hW hk

theorem proved : Rows.RatFieldUptoSaid :=
  OpenClaim.holds_of_cond 6 Try.f6 rfl rfl rfl rfl rfl rfl rfl ⟨rfl, rfl, rfl, rfl, rfl⟩ rfl rfl rfl rfl rfl (by kernel_rfl) Try.func6 (by kernel_rfl)
    (of_decide_eq_true (by kernel_rfl)) (by unfold Func.isWrapper; first | (rw [if_pos (by decide +kernel)]; kernel_rfl) | (rw [if_neg (by decide +kernel)]; exact ⟨rfl, rfl⟩))
    (fun os started H enc _ F => lifted os started H enc F)
#print axioms proved

end Go.Proofs.Ytjnbhinjpinkaaa.ratField
