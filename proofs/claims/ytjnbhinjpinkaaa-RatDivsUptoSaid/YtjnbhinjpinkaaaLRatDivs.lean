/- RatDivs: quotients and inverses are exact, and dividing by 0 is refused. Conditions: the arguments hold together at most 1048576 values (the second form, Upto). -/
import Derived.Test.YtjnbhinjpinkaaaFrameN
import Derived.Test.YtjnbhinjpinkaaaPBoth05
import Derived.Test.YtjnbhinjpinkaaaPAwake05
import Derived.Test.YtjnbhinjpinkaaaPIs05
import Derived.Test.YtjnbhinjpinkaaaPRef5Inv
import Derived.Test.YtjnbhinjpinkaaaPRatSign
namespace Go.Proofs.Ytjnbhinjpinkaaa.ratDivs
open Go.ChangeShapes Go.WideShapes Go.ChangeAt Go.RowKit Go.Att

set_option maxHeartbeats 4000000 in
set_option maxRecDepth 100000 in
theorem walk {w : World} {v0 v1 : Value} {s0 s1 : Bool} {x0 y0 x1 y1 : List Nat} (hv0 : RdN w v0 s0 x0 y0) (hx0 : x0.length ≤ 1048576) (hy0 : y0.length ≤ 1048576) (hv1 : RdN w v1 s1 x1 y1) (hx1 : x1.length ≤ 1048576) (hy1 : y1.length ≤ 1048576) :
    Calls Try.prog 5 #[v0, v1] w (Gives w fun v' _ => v' = .bool true) := by
  refine via fun R hR => ?_
  have HV0 := Lib.hid hv0
  have HV1 := Lib.hid hv1
  have SP : Hid (Sz 8 (qOf s0 x0 y0)) := by obtain ⟨_, _, _, h1, h2⟩ := hv0; exact qOf_sz h1.2 h2.2
  have SQ : Hid (Sz 8 (qOf s1 x1 y1)) := by obtain ⟨_, _, _, h1, h2⟩ := hv1; exact qOf_sz h1.2 h2.2
  obtain ⟨a0, c0, rfl, -, -⟩ := hv0
  obtain ⟨a1, c1, rfl, -, -⟩ := hv1
  obtain ⟨p, hp⟩ : ∃ p, p = qOf s0 x0 y0 := ⟨_, rfl⟩
  obtain ⟨q, hq⟩ : ∃ q, q = qOf s1 x1 y1 := ⟨_, rfl⟩
  rw [← hp] at SP
  rw [← hq] at SQ
  have hq2 := Lib.hid hp.symm
  have hq4 := Lib.hid hq.symm
  clear hp hq
  obtain ⟨w1, hw1, b1, h1, h2, z1⟩ := box2 w (.bool s0) a0 c0 (.bool s1) a1 c1 34 34
  have C1 := Lib.hid h1
  have C2 := Lib.hid h2
  have HW := Lib.hid hw1
  clear h1 h2 hw1
  go_enter Try.func5, Try.ntmps5
  go_wp2_with fail
  rw [← HW.out]
  clear HW
  refine (hq2 ▸ both_any (HV0.out.ext b1) (by omega) (by omega)).mono ?_
  rintro e w2 ⟨_, rfl, b2, _, _, rfl, ⟨n, d, rfl, on, od⟩, ⟨m, c, rfl, om, oc⟩⟩
  obtain ⟨an, cn, rfl, -, -, -, -⟩ := on.rd.1.shape
  obtain ⟨ad, cd, rfl, -, -, -, -⟩ := od.rd.1.shape
  obtain ⟨am, cm, rfl, -, -, -, -⟩ := om.rd.shape
  obtain ⟨ac, cc, rfl, -, -, -, -⟩ := oc.rd.shape
  obtain ⟨w3, hw, b3, c1, c2, -⟩ := box2 w2 (.bool (decide (p.num < 0))) (.slice an (limbs p.num.natAbs).length cn) (.slice ad (dens p.den).length cd) (.bool (decide (p.num < 0))) (.slice am (bitsOf p.num.natAbs).length cm) (.slice ac (bitsOf p.den).length cc) 36 43
  have HW := Lib.hid hw
  have CQ2 := Lib.hid c1
  have CP2 := Lib.hid c2
  have RQ2 : Hid (RdQ w3 (.agg #[.bool (decide (p.num < 0)), .slice an (limbs p.num.natAbs).length cn, .slice ad (dens p.den).length cd]) p) := ⟨_, _, rfl, on.rd.ext b3, od.rd.ext b3⟩
  have RP2 : Hid (RdP w3 (.agg #[.bool (decide (p.num < 0)), .slice am (bitsOf p.num.natAbs).length cm, .slice ac (bitsOf p.den).length cc]) p) := ⟨_, _, rfl, om.rd.ext b3, oc.rd.ext b3⟩
  clear hw c1 c2 on od om oc
  go_upto_region 2 with (fail)
  rw [← HW.out]
  clear HW
  generalize Value.slice an (limbs p.num.natAbs).length cn = xn2 at *
  generalize Value.slice ad (dens p.den).length cd = xd2 at *
  generalize Value.slice am (bitsOf p.num.natAbs).length cm = yn2 at *
  generalize Value.slice ac (bitsOf p.den).length cc = yd2 at *
  generalize Value.bool (decide (p.num < 0)) = xs2 at *
  obtain ⟨k0, k1, k2⟩ := C2.out.ext (Ext.trans b2 b3)
  go_wp2_with fail
  clear k0 k1 k2
  refine (hq4 ▸ both_any (HV1.out.ext (Ext.trans b1 (Ext.trans b2 b3))) (by omega) (by omega)).mono ?_
  rintro e w4 ⟨_, rfl, b4, _, _, rfl, ⟨n, d, rfl, on, od⟩, ⟨m, c, rfl, om, oc⟩⟩
  obtain ⟨an, cn, rfl, -, -, -, -⟩ := on.rd.1.shape
  obtain ⟨ad, cd, rfl, -, -, -, -⟩ := od.rd.1.shape
  obtain ⟨am, cm, rfl, -, -, -, -⟩ := om.rd.shape
  obtain ⟨ac, cc, rfl, -, -, -, -⟩ := oc.rd.shape
  obtain ⟨w5, hw, b5, c1, c2, -⟩ := box2 w4 (.bool (decide (q.num < 0))) (.slice an (limbs q.num.natAbs).length cn) (.slice ad (dens q.den).length cd) (.bool (decide (q.num < 0))) (.slice am (bitsOf q.num.natAbs).length cm) (.slice ac (bitsOf q.den).length cc) 36 43
  have HW := Lib.hid hw
  have CQ4 := Lib.hid c1
  have CP4 := Lib.hid c2
  have RQ4 : Hid (RdQ w5 (.agg #[.bool (decide (q.num < 0)), .slice an (limbs q.num.natAbs).length cn, .slice ad (dens q.den).length cd]) q) := ⟨_, _, rfl, on.rd.ext b5, od.rd.ext b5⟩
  have RP4 : Hid (RdP w5 (.agg #[.bool (decide (q.num < 0)), .slice am (bitsOf q.num.natAbs).length cm, .slice ac (bitsOf q.den).length cc]) q) := ⟨_, _, rfl, om.rd.ext b5, oc.rd.ext b5⟩
  clear hw c1 c2 on od om oc
  go_upto_region 3 with (fail)
  rw [← HW.out]
  clear HW
  generalize Value.slice an (limbs q.num.natAbs).length cn = xn4 at *
  generalize Value.slice ad (dens q.den).length cd = xd4 at *
  generalize Value.slice am (bitsOf q.num.natAbs).length cm = yn4 at *
  generalize Value.slice ac (bitsOf q.den).length cc = yd4 at *
  generalize Value.bool (decide (q.num < 0)) = xs4 at *
  clear C1 C2
  obtain ⟨k0, k1, k2⟩ := CQ4.out
  by_cases h0 : q.num = 0
  · have H0 := Lib.hid h0
    clear h0
    go_wp2_with fail
    clear k0 k1 k2
    refine (rinv_no RQ4.out H0.out).mono ?_
    rintro e w6 ⟨_, rfl, b6, rfl⟩
    obtain ⟨w7, hw, b7, c1, -, -⟩ := box1 w6 (.bool false) (.slice none 0 0) (.slice none 0 0) 36
    have HW := Lib.hid hw
    have C6 := Lib.hid c1
    clear hw c1
    go_upto_region 4 with (fail)
    rw [← HW.out]
    clear HW
    obtain ⟨k0, k1, k2⟩ := CQ2.out.ext (Ext.trans b4 (Ext.trans b5 (Ext.trans b6 b7)))
    obtain ⟨l0, l1, l2⟩ := CQ4.out.ext (Ext.trans b6 b7)
    go_wp2_with fail
    clear k0 k1 k2 l0 l1 l2
    refine (rdiv_no (RQ2.out.ext (Ext.trans b4 (Ext.trans b5 (Ext.trans b6 b7)))) (RQ4.out.ext (Ext.trans b6 b7)) H0.out).mono ?_
    rintro e w8 ⟨_, rfl, b8, rfl⟩
    obtain ⟨w9, hw, b9, c1, -, -⟩ := box1 w8 (.bool false) (.slice none 0 0) (.slice none 0 0) 36
    have HW := Lib.hid hw
    have C8 := Lib.hid c1
    clear hw c1
    go_upto_region 5 with (fail)
    rw [← HW.out]
    clear HW
    obtain ⟨k0, k1, k2⟩ := CP4.out.ext (Ext.trans b6 (Ext.trans b7 (Ext.trans b8 b9)))
    go_wp2_with fail
    clear k0 k1 k2
    refine (r5sign_any (RP4.out.ext (Ext.trans b6 (Ext.trans b7 (Ext.trans b8 b9))))).mono ?_
    rintro e w10 ⟨_, rfl, b10, rfl⟩
    rw [show q.num.sign = 0 by rw [H0.out]; rfl]
    go_wp2_with fail
    refine awake05.mono ?_
    rintro e w11 ⟨_, rfl, b11, rfl⟩
    obtain ⟨k0, k1, k2⟩ := C6.out.ext (Ext.trans b8 (Ext.trans b9 (Ext.trans b10 b11)))
    go_wp2_with fail
    clear k0 k1 k2
    refine (rsign_any (RdQ.zero w11)).mono ?_
    rintro e w12 ⟨_, rfl, b12, rfl⟩
    rw [show (0 : Rat).num.sign = 0 by rw [Rat.zero_num]; rfl]
    obtain ⟨k0, k1, k2⟩ := C8.out.ext (Ext.trans b10 (Ext.trans b11 b12))
    go_wp2_with fail
    clear k0 k1 k2
    refine (rsign_any (RdQ.zero w12)).mono ?_
    rintro e w13 ⟨_, rfl, b13, rfl⟩
    rw [show (0 : Rat).num.sign = 0 by rw [Rat.zero_num]; rfl]
    go_wp2_with fail
    exact hR.out _ _ (Gives.mk (Ext.trans b1 (Ext.trans b2 (Ext.trans b3 (Ext.trans b4 (Ext.trans b5 (Ext.trans b6 (Ext.trans b7 (Ext.trans b8 (Ext.trans b9 (Ext.trans b10 (Ext.trans b11 (Ext.trans b12 b13)))))))))))) rfl)
  · have H0 := Lib.hid h0
    have SI := Lib.hid SQ.out.inv
    have hI : Hid (∀ {w v}, RdQ w v q → Calls Try.prog 31 #[v] w (Gives w fun v' w' => ∃ o, v' = .tuple #[o, .bool true] ∧ OwnQ 90 w.heap.size w' o q⁻¹)) := fun h => rinv_any h (SQ.out.le (by decide)) h0
    have hJ : Hid (∀ {w v}, RdP w v q → Calls Try.prog 29 #[v] w (Gives w fun v' w' => RdP w' v' q⁻¹)) := fun h => r5inv_any h h0
    have hDv : Hid (∀ {w va vb}, RdQ w va p → RdQ w vb q → Calls Try.prog 32 #[va, vb] w (Gives w fun v' w' => ∃ o, v' = .tuple #[o, .bool true] ∧ OwnQ 90 w.heap.size w' o (p * q⁻¹))) := fun h k => rdiv_any h k (SP.out.le (by decide)) (SQ.out.le (by decide)) h0
    generalize q⁻¹ = i at *
    have SR := Lib.hid (SP.out.mul SI.out)
    have hM : Hid (∀ {w va vb}, RdP w va p → RdP w vb i → Calls Try.prog 28 #[va, vb] w (Gives w fun v' w' => OwnP 4 w.heap.size w' v' (p * i))) := fun h k => r5mul_any h k (SP.out.bits.le (by decide)) (SI.out.bits.le (by decide))
    generalize p * i = r at *
    have hs : (q.num.sign == 0) = false := by simp [Int.sign_eq_zero_iff_zero, h0]
    clear h0
    go_wp2_with fail
    clear k0 k1 k2
    refine (hI.out RQ4.out).mono ?_
    rintro e w6 ⟨_, rfl, b6, _, rfl, n6, d6, rfl, on6, od6⟩
    have ON6 := Lib.hid on6
    have OD6 := Lib.hid od6
    clear on6 od6
    obtain ⟨an6, cn6, rfl, -, -, -, -⟩ := ON6.out.rd.1.shape
    obtain ⟨ad6, cd6, rfl, -, -, -, -⟩ := OD6.out.rd.1.shape
    obtain ⟨w7, hw, b7, c1, -, -⟩ := box1 w6 (.bool (decide (i.num < 0))) (.slice an6 (limbs i.num.natAbs).length cn6) (.slice ad6 (dens i.den).length cd6) 36
    have HW := Lib.hid hw
    have C6 := Lib.hid c1
    clear hw c1
    go_upto_region 4 with (fail)
    rw [← HW.out]
    clear HW
    have RI6 : Hid (RdQ w7 (.agg #[.bool (decide (i.num < 0)), .slice an6 (limbs i.num.natAbs).length cn6, .slice ad6 (dens i.den).length cd6]) i) := ⟨_, _, rfl, ON6.out.rd.ext b7, OD6.out.rd.ext b7⟩
    clear ON6 OD6
    generalize Value.slice an6 (limbs i.num.natAbs).length cn6 = xn6 at *
    generalize Value.slice ad6 (dens i.den).length cd6 = xd6 at *
    generalize Value.bool (decide (i.num < 0)) = xs6 at *
    obtain ⟨k0, k1, k2⟩ := CQ2.out.ext (Ext.trans b4 (Ext.trans b5 (Ext.trans b6 b7)))
    obtain ⟨l0, l1, l2⟩ := CQ4.out.ext (Ext.trans b6 b7)
    go_wp2_with fail
    clear k0 k1 k2 l0 l1 l2
    refine (hDv.out (RQ2.out.ext (Ext.trans b4 (Ext.trans b5 (Ext.trans b6 b7)))) (RQ4.out.ext (Ext.trans b6 b7))).mono ?_
    rintro e w8 ⟨_, rfl, b8, _, rfl, n8, d8, rfl, on8, od8⟩
    have ON8 := Lib.hid on8
    have OD8 := Lib.hid od8
    clear on8 od8
    obtain ⟨an8, cn8, rfl, -, -, -, -⟩ := ON8.out.rd.1.shape
    obtain ⟨ad8, cd8, rfl, -, -, -, -⟩ := OD8.out.rd.1.shape
    obtain ⟨w9, hw, b9, c1, -, -⟩ := box1 w8 (.bool (decide (r.num < 0))) (.slice an8 (limbs r.num.natAbs).length cn8) (.slice ad8 (dens r.den).length cd8) 36
    have HW := Lib.hid hw
    have C8 := Lib.hid c1
    clear hw c1
    go_upto_region 5 with (fail)
    rw [← HW.out]
    clear HW
    have RI8 : Hid (RdQ w9 (.agg #[.bool (decide (r.num < 0)), .slice an8 (limbs r.num.natAbs).length cn8, .slice ad8 (dens r.den).length cd8]) r) := ⟨_, _, rfl, ON8.out.rd.ext b9, OD8.out.rd.ext b9⟩
    clear ON8 OD8
    generalize Value.slice an8 (limbs r.num.natAbs).length cn8 = xn8 at *
    generalize Value.slice ad8 (dens r.den).length cd8 = xd8 at *
    generalize Value.bool (decide (r.num < 0)) = xs8 at *
    obtain ⟨k0, k1, k2⟩ := CP4.out.ext (Ext.trans b6 (Ext.trans b7 (Ext.trans b8 b9)))
    go_wp2_with fail
    clear k0 k1 k2
    refine (r5sign_any (RP4.out.ext (Ext.trans b6 (Ext.trans b7 (Ext.trans b8 b9))))).mono ?_
    rintro e w10 ⟨_, rfl, b10, rfl⟩
    go_upto_region 7 with (fail)
    have D1 := Lib.hid (C6.out.ext (Ext.trans b8 (Ext.trans b9 b10)))
    have D2 := Lib.hid (CP4.out.ext (Ext.trans b6 (Ext.trans b7 (Ext.trans b8 (Ext.trans b9 b10)))))
    have D3 := Lib.hid (C8.out.ext b10)
    have D4 := Lib.hid (CP2.out.ext (Ext.trans b4 (Ext.trans b5 (Ext.trans b6 (Ext.trans b7 (Ext.trans b8 (Ext.trans b9 b10)))))))
    clear C6 CP4 C8 CP2 CQ2 CQ4
    have b11 := drew_ext w10
    have XE := b11
    go_region_held3 (fun w' => (w'.cell? ⟨w6.heap.size, 0, none⟩ = some (xs6) ∧ w'.cell? ⟨w6.heap.size, 1, none⟩ = some (xn6) ∧ w'.cell? ⟨w6.heap.size, 2, none⟩ = some (xd6)) ∧ (w'.cell? ⟨w4.heap.size + 1, 0, none⟩ = some (xs4) ∧ w'.cell? ⟨w4.heap.size + 1, 1, none⟩ = some (yn4) ∧ w'.cell? ⟨w4.heap.size + 1, 2, none⟩ = some (yd4)) ∧ (w'.cell? ⟨w8.heap.size, 0, none⟩ = some (xs8) ∧ w'.cell? ⟨w8.heap.size, 1, none⟩ = some (xn8) ∧ w'.cell? ⟨w8.heap.size, 2, none⟩ = some (xd8)) ∧ (w'.cell? ⟨w2.heap.size + 1, 0, none⟩ = some (xs2) ∧ w'.cell? ⟨w2.heap.size + 1, 1, none⟩ = some (yn2) ∧ w'.cell? ⟨w2.heap.size + 1, 2, none⟩ = some (yd2))) (exact ⟨D1.out.ext XE, D2.out.ext XE, D3.out.ext XE, D4.out.ext XE⟩)
      (first
       | (go_at_call 23; refine (is_yes (RI8.out.ext (Ext.trans b10 (Ext.trans b11 (Ext.trans b12 (Ext.trans b13 (Ext.trans b14 (Ext.trans b15 b16))))))) O16.out.rd (SR.out.le (by decide))).mono ?_; rintro e w17 ⟨_, rfl, b17, rfl⟩; have XE := Ext.trans XE b17)
       | (go_at_call 28; refine (hM.out (RP2.out.ext (Ext.trans b4 (Ext.trans b5 (Ext.trans b6 (Ext.trans b7 (Ext.trans b8 (Ext.trans b9 (Ext.trans b10 (Ext.trans b11 (Ext.trans b12 (Ext.trans b13 (Ext.trans b14 b15)))))))))))) O15.out).mono ?_; rintro e w16 ⟨v16, rfl, b16, o16⟩; have O16 := Lib.hid o16; clear o16; have XE := Ext.trans XE b16)
       | (go_at_call 29; refine (hJ.out (RP4.out.ext (Ext.trans b6 (Ext.trans b7 (Ext.trans b8 (Ext.trans b9 (Ext.trans b10 (Ext.trans b11 (Ext.trans b12 (Ext.trans b13 b14)))))))))).mono ?_; rintro e w15 ⟨v15, rfl, b15, o15⟩; have O15 := Lib.hid o15; clear o15; have XE := Ext.trans XE b15)
       | (go_at_call 23; refine (is_yes (RI6.out.ext (Ext.trans b8 (Ext.trans b9 (Ext.trans b10 (Ext.trans b11 (Ext.trans b12 b13)))))) O13.out (SI.out.le (by decide))).mono ?_; rintro e w14 ⟨_, rfl, b14, rfl⟩; have XE := Ext.trans XE b14)
       | (go_at_call 29; refine (hJ.out (RP4.out.ext (Ext.trans b6 (Ext.trans b7 (Ext.trans b8 (Ext.trans b9 (Ext.trans b10 (Ext.trans b11 b12)))))))).mono ?_; rintro e w13 ⟨v13, rfl, b13, o13⟩; have O13 := Lib.hid o13; clear o13; have XE := Ext.trans XE b13)
       | (go_at_call 25; refine (awake05).mono ?_; rintro e w12 ⟨_, rfl, b12, rfl⟩; have XE := Ext.trans XE b12))
    go_wp2_with fail
    exact hR.out _ _ (Gives.mk (Ext.trans b1 (Ext.trans b2 (Ext.trans b3 (Ext.trans b4 (Ext.trans b5 (Ext.trans b6 (Ext.trans b7 (Ext.trans b8 (Ext.trans b9 (Ext.trans b10 (Ext.trans b11 (Ext.trans b12 (Ext.trans b13 (Ext.trans b14 (Ext.trans b15 (Ext.trans b16 b17)))))))))))))))) rfl)
theorem own : ownKnob Try.prog.godebug = none := by kernel_rfl
theorem laidOut : laidOutB Try.prog = true := by kernel_rfl

set_option maxRecDepth 100000 in
theorem contract (H : Type) (enc : TypeId × Value → H) (W : World) (base : Nat) (args : Array Value) (ds gs : List (DataW H)) (before : List MemPlace)
    (hval : ∀ (j : Nat) t v, Try.f5.params[j]? = some t → args[j]? = some v → Value.okWide Try.prog W .any base t v)
    (hW : DataW.Whole enc Try.prog Try.f5.params.toList Rows.ratDivsSpec.vars false W args.toList ds gs before) (hk : Rows.uptoSmall H (ds ++ gs) = true) :
    Calls Try.prog 5 args W fun e W' => ∃ v, e = .returned v ∧ Rows.ratDivsSpec.post enc Try.prog Try.f5 false true false false W args v W' := by
  have hW' := hW
  obtain ⟨p, q, hA0, hV, rfl, hfz, hnd⟩ := hW
  have hA : DataW.TrodAll enc Try.prog W 0 (fun _ => true) true Try.f5.params.toList args.toList ds p := hA0
  rw [Try.params5] at hA hval
  obtain ⟨v0, vs0, d0, ds0, p0, q0, hargs, rfl, rfl, h0, r0⟩ := trodAll_cons hA
  obtain ⟨v1, vs1, d1, ds1, p1, q1, rfl, rfl, rfl, h1, r1⟩ := trodAll_cons r0
  obtain ⟨rfl, rfl, rfl⟩ := trodAll_nil r1
  obtain rfl : args = #[v0, v1] := by cases args; simp_all
  obtain ⟨rfl, rfl⟩ := trodVars_none hV
  have hb := bulk_small hk
  simp only [List.append_nil, bulk_cons, bulk_nil] at hb
  have k0 := h0
  have lt0 : ∀ x ∈ p0, x.block < W.heap.size := by obtain ⟨m, hm⟩ := k0; exact DataW.trod_lt m _ _ _ hm
  obtain ⟨s0, x0, y0, rd0, len0⟩ := open_N (hval 0 34 v0 rfl rfl) h0
  have k1 := h1
  have lt1 : ∀ x ∈ p1, x.block < W.heap.size := by obtain ⟨m, hm⟩ := k1; exact DataW.trod_lt m _ _ _ hm
  obtain ⟨s1, x1, y1, rd1, len1⟩ := open_N (hval 1 34 v1 rfl rfl) h1
  clear hA0
  refine (walk rd0 (by omega) (by omega) rd1 (by omega) (by omega)).mono fun e W' ⟨v, he, bel, hv⟩ => ?_
  subst he hv
  exact ⟨_, rfl, _, _, _, [], _, [], hW', trodAll_mk1 (shut_bool Try.underlying4 _), (trodAll_cons_mk (Below.trod laidOut (by kernel_rfl) (of_decide_eq_true (by kernel_rfl)) k0 bel lt0) (trodAll_cons_mk (Below.trod laidOut (by kernel_rfl) (of_decide_eq_true (by kernel_rfl)) k1 bel lt1) trodAll_mk0)), rfl, bel.frame _, fun h => by cases h⟩

set_option maxRecDepth 100000 in
theorem lifted (os : Os) (started : os.Started) (H : Type) (enc : TypeId × Value → H) (F : Stop.Interp) :
    ReturnsInHanded {} Try.checked os 5 .any ((Rows.OpenSpec.upto Rows.ratDivsSpec).pre6 enc Try.prog Try.f5 Rows.ratDivsUptoRow.domain false) (((Rows.OpenSpec.upto Rows.ratDivsSpec).at F).post enc Try.prog Try.f5 false true false false) := by
  refine returnsInHanded_of_cond (C := Try.checked) (s := Rows.OpenSpec.upto Rows.ratDivsSpec) (k := Rows.uptoSmall) rfl own started (by kernel_rfl) Try.func5
    (OpenSpec.witness (enc := enc) (C := Try.checked) (s := Rows.OpenSpec.upto Rows.ratDivsSpec) (k := Rows.uptoSmall) rfl false ⟨#[], #[.agg #[.bool false, .slice none 0 0, .slice none 0 0], .agg #[.bool false, .slice none 0 0, .slice none 0 0]], []⟩ 8 (by kernel_rfl) (by kernel_rfl) (by kernel_rfl)
      (x := ([.agg [.lit (.bool false), .nil, .nil], .agg [.lit (.bool false), .nil, .nil]], [], [])) (by kernel_rfl) rfl (by kernel_rfl)) ?_
  intro W base args ds gs before hval hW _ hk _
  exact contract H enc W base args ds gs before hval hW hk

theorem proved : Rows.RatDivsUptoSaid :=
  OpenClaim.holds_of_cond 5 Try.f5 rfl rfl rfl rfl rfl rfl rfl ⟨rfl, rfl, rfl, rfl, rfl⟩ rfl rfl rfl rfl rfl (by kernel_rfl) Try.func5 (by kernel_rfl)
    (of_decide_eq_true (by kernel_rfl)) (by unfold Func.isWrapper; first | (rw [if_pos (by decide +kernel)]; kernel_rfl) | (rw [if_neg (by decide +kernel)]; exact ⟨rfl, rfl⟩))
    (fun os started H enc _ F => lifted os started H enc F)
#print axioms proved

end Go.Proofs.Ytjnbhinjpinkaaa.ratDivs
