/- RatSums: sums, differences, products, signs and sizes of rational numbers are exact. Conditions: the arguments hold together at most 1048576 values (the second form, Upto). -/
import Derived.Test.YtjnbhinjpinkaaaFrameN
import Derived.Test.YtjnbhinjpinkaaaPBoth05
import Derived.Test.YtjnbhinjpinkaaaPAwake05
import Derived.Test.YtjnbhinjpinkaaaPIs05
import Derived.Test.YtjnbhinjpinkaaaPRatCmp
import Derived.Test.YtjnbhinjpinkaaaPRatAbs
import Derived.Test.YtjnbhinjpinkaaaPRatSum
import Derived.Test.YtjnbhinjpinkaaaPRef5Cmp
import Derived.Test.YtjnbhinjpinkaaaPRef5Int
namespace Go.Proofs.Ytjnbhinjpinkaaa.ratSums
open Go.ChangeShapes Go.WideShapes Go.ChangeAt Go.RowKit Go.Att

theorem RdP.abs {w : World} {x n d : Value} {q : Rat} (h : RdP w (.agg #[x, n, d]) q) : RdP w (.agg #[.bool false, n, d]) (absQ q) := by
  obtain ⟨n', d', he, h1, h2⟩ := h
  obtain ⟨-, rfl, rfl⟩ : x = .bool (decide (q.num < 0)) ∧ n = n' ∧ d = d' := by simpa using he
  exact ⟨n, d, agg_eq (absQ_neg q).symm, by rw [absQ_abs]; exact h1, by rw [absQ_den]; exact h2⟩

theorem rdqs0 (w : World) : RdQs w (.slice none 0 0) [] := ⟨none, 0, rfl, Nat.le_refl _, Nat.zero_le _, fun i h => by cases h⟩
theorem rdqs3 {w : World} {x n d x' n' d' : Value} {p q : Rat} {t : TypeId} (hp : RdQ w (.agg #[x, n, d]) p) (hq : RdQ w (.agg #[x', n', d']) q) :
    RdQs (w.alloc (.cells #[x, n, d, x', n', d', x, n, d] t)) (.slice (some ⟨w.heap.size, 0, none⟩) 3 3) [p, q, p] := by
  refine ⟨_, 3, rfl, Nat.le_refl 3, by unfold maxLen; omega, fun i h => ?_⟩
  have hp' := hp.ext (Ext.alloc w (.cells #[x, n, d, x', n', d', x, n, d] t))
  have hq' := hq.ext (Ext.alloc w (.cells #[x, n, d, x', n', d', x, n, d] t))
  match i, h with
  | 0, _ => exact ⟨_, _, x, n, d, rfl, by simp, by simp, by simp, hp'⟩
  | 1, _ => exact ⟨_, _, x', n', d', rfl, by simp, by simp, by simp, hq'⟩
  | 2, _ => exact ⟨_, _, x, n, d, rfl, by simp, by simp, by simp, hp'⟩

set_option maxHeartbeats 8000000 in
set_option maxRecDepth 100000 in
theorem walk {w : World} {v0 v1 : Value} {s0 s1 : Bool} {x0 y0 x1 y1 : List Nat} (hv0 : RdN w v0 s0 x0 y0) (hx0 : x0.length ≤ 1048576) (hy0 : y0.length ≤ 1048576) (hv1 : RdN w v1 s1 x1 y1) (hx1 : x1.length ≤ 1048576) (hy1 : y1.length ≤ 1048576) :
    Calls Try.prog 7 #[v0, v1] w (Gives w fun v' _ => v' = .bool true) := by
  refine via fun R hR => ?_
  have HV0 := Lib.hid hv0
  have HV1 := Lib.hid hv1
  have SP : Hid (Sz 8 (qOf s0 x0 y0)) := by obtain ⟨_, _, _, h1, h2⟩ := hv0; exact qOf_sz h1.2 h2.2
  have SQ : Hid (Sz 8 (qOf s1 x1 y1)) := by obtain ⟨_, _, _, h1, h2⟩ := hv1; exact qOf_sz h1.2 h2.2
  obtain ⟨a0, c0, rfl, -, -⟩ := hv0
  obtain ⟨a1, c1, rfl, -, -⟩ := hv1
  obtain ⟨p, hp⟩ : ∃ p, p = qOf s0 x0 y0 := ⟨_, rfl⟩
  obtain ⟨q, hq⟩ : ∃ q, q = qOf s1 x1 y1 := ⟨_, rfl⟩
  rw [← hp] at SP
  rw [← hq] at SQ
  have hq2 := Lib.hid hp.symm
  have hq4 := Lib.hid hq.symm
  clear hp hq
  obtain ⟨w1, hw1, b1, h1, h2, z1⟩ := box2 w (.bool s0) a0 c0 (.bool s1) a1 c1 34 34
  have C1 := Lib.hid h1
  have C2 := Lib.hid h2
  have HW := Lib.hid hw1
  clear h1 h2 hw1
  go_enter Try.func7, Try.ntmps7
  go_wp2_with fail
  rw [← HW.out]
  clear HW
  refine (hq2 ▸ both_any (HV0.out.ext b1) (by omega) (by omega)).mono ?_
  rintro e w2 ⟨_, rfl, b2, _, _, rfl, ⟨n, d, rfl, on, od⟩, ⟨m, c, rfl, om, oc⟩⟩
  obtain ⟨an, cn, rfl, -, -, -, -⟩ := on.rd.1.shape
  obtain ⟨ad, cd, rfl, -, -, -, -⟩ := od.rd.1.shape
  obtain ⟨am, cm, rfl, -, -, -, -⟩ := om.rd.shape
  obtain ⟨ac, cc, rfl, -, -, -, -⟩ := oc.rd.shape
  obtain ⟨w3, hw, b3, c1, c2, -⟩ := box2 w2 (.bool (decide (p.num < 0))) (.slice an (limbs p.num.natAbs).length cn) (.slice ad (dens p.den).length cd) (.bool (decide (p.num < 0))) (.slice am (bitsOf p.num.natAbs).length cm) (.slice ac (bitsOf p.den).length cc) 36 43
  have HW := Lib.hid hw
  have CQ2 := Lib.hid c1
  have CP2 := Lib.hid c2
  have RQ2 : Hid (RdQ w3 (.agg #[.bool (decide (p.num < 0)), .slice an (limbs p.num.natAbs).length cn, .slice ad (dens p.den).length cd]) p) := ⟨_, _, rfl, on.rd.ext b3, od.rd.ext b3⟩
  have RP2 : Hid (RdP w3 (.agg #[.bool (decide (p.num < 0)), .slice am (bitsOf p.num.natAbs).length cm, .slice ac (bitsOf p.den).length cc]) p) := ⟨_, _, rfl, om.rd.ext b3, oc.rd.ext b3⟩
  clear hw c1 c2 on od om oc
  go_upto_region 2 with (fail)
  rw [← HW.out]
  clear HW
  generalize Value.slice an (limbs p.num.natAbs).length cn = xn2 at *
  generalize Value.slice ad (dens p.den).length cd = xd2 at *
  generalize Value.slice am (bitsOf p.num.natAbs).length cm = yn2 at *
  generalize Value.slice ac (bitsOf p.den).length cc = yd2 at *
  generalize Value.bool (decide (p.num < 0)) = xs2 at *
  obtain ⟨k0, k1, k2⟩ := C2.out.ext (Ext.trans b2 b3)
  go_wp2_with fail
  clear k0 k1 k2
  refine (hq4 ▸ both_any (HV1.out.ext (Ext.trans b1 (Ext.trans b2 b3))) (by omega) (by omega)).mono ?_
  rintro e w4 ⟨_, rfl, b4, _, _, rfl, ⟨n, d, rfl, on, od⟩, ⟨m, c, rfl, om, oc⟩⟩
  obtain ⟨an, cn, rfl, -, -, -, -⟩ := on.rd.1.shape
  obtain ⟨ad, cd, rfl, -, -, -, -⟩ := od.rd.1.shape
  obtain ⟨am, cm, rfl, -, -, -, -⟩ := om.rd.shape
  obtain ⟨ac, cc, rfl, -, -, -, -⟩ := oc.rd.shape
  obtain ⟨w5, hw, b5, c1, c2, -⟩ := box2 w4 (.bool (decide (q.num < 0))) (.slice an (limbs q.num.natAbs).length cn) (.slice ad (dens q.den).length cd) (.bool (decide (q.num < 0))) (.slice am (bitsOf q.num.natAbs).length cm) (.slice ac (bitsOf q.den).length cc) 36 43
  have HW := Lib.hid hw
  have CQ4 := Lib.hid c1
  have CP4 := Lib.hid c2
  have RQ4 : Hid (RdQ w5 (.agg #[.bool (decide (q.num < 0)), .slice an (limbs q.num.natAbs).length cn, .slice ad (dens q.den).length cd]) q) := ⟨_, _, rfl, on.rd.ext b5, od.rd.ext b5⟩
  have RP4 : Hid (RdP w5 (.agg #[.bool (decide (q.num < 0)), .slice am (bitsOf q.num.natAbs).length cm, .slice ac (bitsOf q.den).length cc]) q) := ⟨_, _, rfl, om.rd.ext b5, oc.rd.ext b5⟩
  clear hw c1 c2 on od om oc
  go_upto_region 3 with (fail)
  rw [← HW.out]
  clear HW
  generalize Value.slice an (limbs q.num.natAbs).length cn = xn4 at *
  generalize Value.slice ad (dens q.den).length cd = xd4 at *
  generalize Value.slice am (bitsOf q.num.natAbs).length cm = yn4 at *
  generalize Value.slice ac (bitsOf q.den).length cc = yd4 at *
  generalize Value.bool (decide (q.num < 0)) = xs4 at *
  clear C1 C2 HV0 HV1
  obtain ⟨yn', yd', he, h1, h2⟩ := RP2.out
  obtain ⟨rfl, rfl, rfl⟩ : xs2 = .bool (decide (p.num < 0)) ∧ yn2 = yn' ∧ yd2 = yd' := by simpa using he
  obtain ⟨am, cm, rfl, -, -, -, -⟩ := h1.shape
  obtain ⟨ac, cc, rfl, -, -, -, -⟩ := h2.shape
  clear he h1 h2
  obtain ⟨k0, k1, k2⟩ := CP2.out.ext (Ext.trans b4 b5)
  obtain ⟨w6, hw6, b6, c6, -, -⟩ := box1 w5 (.bool false) (.slice am (bitsOf p.num.natAbs).length cm) (.slice ac (bitsOf p.den).length cc) 43
  have C6 := Lib.hid c6
  have HW := Lib.hid hw6
  have RA := Lib.hid (RdP.abs (RP2.out.ext (Ext.trans b4 (Ext.trans b5 b6))))
  clear c6 hw6
  go_wp2_with fail
  rw [← HW.out]
  clear HW k0 k1 k2
  generalize Value.slice am (bitsOf p.num.natAbs).length cm = yn2 at *
  generalize Value.slice ac (bitsOf p.den).length cc = yd2 at *
  generalize Value.bool (decide (p.num < 0)) = xs2 at *
  go_upto_region 5 with (fail)
  have D1 := Lib.hid (CQ2.out.ext (Ext.trans b4 (Ext.trans b5 b6)))
  have D2 := Lib.hid (CQ4.out.ext b6)
  have D3 := Lib.hid (CP2.out.ext (Ext.trans b4 (Ext.trans b5 b6)))
  have D4 := Lib.hid (CP4.out.ext b6)
  have HSB : Hid (∀ {w v}, RdP w v (p + -q) → RdP w v (p - q)) := fun h => by rw [Rat.sub_eq_add_neg]; exact h
  have HSS : Hid (∀ r ∈ [p, q, p], Sz 8 r) := by
    intro r hr
    simp at hr
    rcases hr with rfl | rfl | rfl
    · exact SP.out
    · exact SQ.out
    · exact SP.out
  have hsm : p + q + p = sumL [p, q, p] := by show p + q + p = p + (q + (p + 0)); rw [Rat.add_zero, Rat.add_assoc]
  have HSUM : Hid (∀ {w v}, RdQs w v [p, q, p] → Calls Try.prog 42 #[v] w (Gives w fun v' w' => OwnQ 90 w.heap.size w' v' (sumL [p, q, p]))) := fun h => rsuml_any h HSS.out (by simp)
  have HSUM0 : Hid (∀ w, Calls Try.prog 42 #[.slice none 0 0] w (Gives w fun v' w' => OwnQ 90 w.heap.size w' v' 0)) := fun w => rsuml_any (qs := []) (rdqs0 w) (fun _ h => by cases h) (by decide)
  have HIS : Hid (∀ {w v}, RdP w v (p + q + p) → RdP w v (sumL [p, q, p])) := fun h => by rw [← hsm]; exact h
  have HZ0 : Hid (∀ {w v}, RdP w v ((0 : Int) : Rat) → RdP w v 0) := fun h => by rw [← Rat.intCast_zero]; exact h
  have HSZ : Hid (Sz 1000000 (sumL [p, q, p])) := by rw [← hsm]; exact ((SP.out.add SQ.out).add SP.out).le (by decide)
  clear hsm HSS
  generalize sumL [p, q, p] = S3 at *
  clear CQ2 CQ4 CP2 CP4
  simp only [List.append_eq, List.cons_append, List.nil_append]
  have b7 := drew_ext w6
  have XE := b7
  go_region_held3 (fun w' => (w'.cell? ⟨w2.heap.size, 0, none⟩ = some (xs2) ∧ w'.cell? ⟨w2.heap.size, 1, none⟩ = some (xn2) ∧ w'.cell? ⟨w2.heap.size, 2, none⟩ = some (xd2)) ∧ (w'.cell? ⟨w4.heap.size, 0, none⟩ = some (xs4) ∧ w'.cell? ⟨w4.heap.size, 1, none⟩ = some (xn4) ∧ w'.cell? ⟨w4.heap.size, 2, none⟩ = some (xd4)) ∧ (w'.cell? ⟨w2.heap.size + 1, 0, none⟩ = some (xs2) ∧ w'.cell? ⟨w2.heap.size + 1, 1, none⟩ = some (yn2) ∧ w'.cell? ⟨w2.heap.size + 1, 2, none⟩ = some (yd2)) ∧ (w'.cell? ⟨w4.heap.size + 1, 0, none⟩ = some (xs4) ∧ w'.cell? ⟨w4.heap.size + 1, 1, none⟩ = some (yn4) ∧ w'.cell? ⟨w4.heap.size + 1, 2, none⟩ = some (yd4)) ∧ (w'.cell? ⟨w5.heap.size, 0, none⟩ = some (.bool false) ∧ w'.cell? ⟨w5.heap.size, 1, none⟩ = some (yn2) ∧ w'.cell? ⟨w5.heap.size, 2, none⟩ = some (yd2))) (first | exact ⟨D1.out.ext XE, D2.out.ext XE, D3.out.ext XE, D4.out.ext XE, C6.out.ext XE⟩ | exact ⟨D1.out.ext (XE.trans (Ext.alloc _ _)), D2.out.ext (XE.trans (Ext.alloc _ _)), D3.out.ext (XE.trans (Ext.alloc _ _)), D4.out.ext (XE.trans (Ext.alloc _ _)), C6.out.ext (XE.trans (Ext.alloc _ _))⟩)
    (first
     | (go_at_call 23; refine (is_yes (q := 0) (O30.out.ext b31).rd (HZ0.out O31.out.rd) (Sz.zero.le (by decide))).mono ?_; rintro e w32 ⟨_, rfl, b32, rfl⟩; (first | have XE := Ext.trans XE b32 | have XE := Ext.trans (Ext.trans XE (Ext.alloc _ _)) b32))
     | (go_at_call 27; refine (r5int_any (u := 0) (by omega)).mono ?_; rintro e w31 ⟨v31, rfl, b31, o31⟩; have O31 := Lib.hid o31; clear o31; (first | have XE := Ext.trans XE b31 | have XE := Ext.trans (Ext.trans XE (Ext.alloc _ _)) b31))
     | (go_at_call 42; refine (HSUM0.out w29).mono ?_; rintro e w30 ⟨v30, rfl, b30, o30⟩; have O30 := Lib.hid o30; clear o30; (first | have XE := Ext.trans XE b30 | have XE := Ext.trans (Ext.trans XE (Ext.alloc _ _)) b30))
     | (go_at_call 23; refine (is_yes (O26.out.ext (Ext.trans b27 b28)).rd (HIS.out O28.out.rd) HSZ.out).mono ?_; rintro e w29 ⟨_, rfl, b29, rfl⟩; (first | have XE := Ext.trans XE b29 | have XE := Ext.trans (Ext.trans XE (Ext.alloc _ _)) b29))
     | (go_at_call 38; refine (r5add_any O27.out.rd (RP2.out.ext (Ext.trans (Ext.trans b4 (Ext.trans b5 (Ext.trans b6 (Ext.trans b7 (Ext.trans b8 (Ext.trans b9 (Ext.trans b10 (Ext.trans b11 (Ext.trans b12 (Ext.trans b13 (Ext.trans b14 (Ext.trans b15 (Ext.trans b16 (Ext.trans b17 (Ext.trans b18 (Ext.trans b19 (Ext.trans b20 (Ext.trans b21 (Ext.trans b22 (Ext.trans b23 (Ext.trans b24 b25))))))))))))))))))))) (Ext.trans (Ext.trans (Ext.alloc _ _) b26) b27))) (((SP.out.add SQ.out).bits).le (by decide)) (SP.out.bits.le (by decide))).mono ?_; rintro e w28 ⟨v28, rfl, b28, o28⟩; have O28 := Lib.hid o28; clear o28; (first | have XE := Ext.trans XE b28 | have XE := Ext.trans (Ext.trans XE (Ext.alloc _ _)) b28))
     | (go_at_call 38; refine (r5add_any (RP2.out.ext (Ext.trans (Ext.trans b4 (Ext.trans b5 (Ext.trans b6 (Ext.trans b7 (Ext.trans b8 (Ext.trans b9 (Ext.trans b10 (Ext.trans b11 (Ext.trans b12 (Ext.trans b13 (Ext.trans b14 (Ext.trans b15 (Ext.trans b16 (Ext.trans b17 (Ext.trans b18 (Ext.trans b19 (Ext.trans b20 (Ext.trans b21 (Ext.trans b22 (Ext.trans b23 (Ext.trans b24 b25))))))))))))))))))))) (Ext.trans (Ext.trans (Ext.alloc _ _) b26) (Ext.refl _)))) (RP4.out.ext (Ext.trans (Ext.trans b6 (Ext.trans b7 (Ext.trans b8 (Ext.trans b9 (Ext.trans b10 (Ext.trans b11 (Ext.trans b12 (Ext.trans b13 (Ext.trans b14 (Ext.trans b15 (Ext.trans b16 (Ext.trans b17 (Ext.trans b18 (Ext.trans b19 (Ext.trans b20 (Ext.trans b21 (Ext.trans b22 (Ext.trans b23 (Ext.trans b24 b25))))))))))))))))))) (Ext.trans (Ext.trans (Ext.alloc _ _) b26) (Ext.refl _)))) (SP.out.bits.le (by decide)) (SQ.out.bits.le (by decide))).mono ?_; rintro e w27 ⟨v27, rfl, b27, o27⟩; have O27 := Lib.hid o27; clear o27; (first | have XE := Ext.trans XE b27 | have XE := Ext.trans (Ext.trans XE (Ext.alloc _ _)) b27))
     | (go_at_call 42; refine (HSUM.out (rdqs3 (RQ2.out.ext (Ext.trans b4 (Ext.trans b5 (Ext.trans b6 (Ext.trans b7 (Ext.trans b8 (Ext.trans b9 (Ext.trans b10 (Ext.trans b11 (Ext.trans b12 (Ext.trans b13 (Ext.trans b14 (Ext.trans b15 (Ext.trans b16 (Ext.trans b17 (Ext.trans b18 (Ext.trans b19 (Ext.trans b20 (Ext.trans b21 (Ext.trans b22 (Ext.trans b23 (Ext.trans b24 b25)))))))))))))))))))))) (RQ4.out.ext (Ext.trans b6 (Ext.trans b7 (Ext.trans b8 (Ext.trans b9 (Ext.trans b10 (Ext.trans b11 (Ext.trans b12 (Ext.trans b13 (Ext.trans b14 (Ext.trans b15 (Ext.trans b16 (Ext.trans b17 (Ext.trans b18 (Ext.trans b19 (Ext.trans b20 (Ext.trans b21 (Ext.trans b22 (Ext.trans b23 (Ext.trans b24 b25)))))))))))))))))))))).mono ?_; rintro e w26 ⟨v26, rfl, b26, o26⟩; have O26 := Lib.hid o26; clear o26; (first | have XE := Ext.trans XE b26 | have XE := Ext.trans (Ext.trans XE (Ext.alloc _ _)) b26))
     | (go_at_call 33; refine (r5sign_any (RP2.out.ext (Ext.trans b4 (Ext.trans b5 (Ext.trans b6 (Ext.trans b7 (Ext.trans b8 (Ext.trans b9 (Ext.trans b10 (Ext.trans b11 (Ext.trans b12 (Ext.trans b13 (Ext.trans b14 (Ext.trans b15 (Ext.trans b16 (Ext.trans b17 (Ext.trans b18 (Ext.trans b19 (Ext.trans b20 (Ext.trans b21 (Ext.trans b22 (Ext.trans b23 b24)))))))))))))))))))))).mono ?_; rintro e w25 ⟨_, rfl, b25, rfl⟩; (first | have XE := Ext.trans XE b25 | have XE := Ext.trans (Ext.trans XE (Ext.alloc _ _)) b25))
     | (go_at_call 22; refine (rsign_any (RQ2.out.ext (Ext.trans b4 (Ext.trans b5 (Ext.trans b6 (Ext.trans b7 (Ext.trans b8 (Ext.trans b9 (Ext.trans b10 (Ext.trans b11 (Ext.trans b12 (Ext.trans b13 (Ext.trans b14 (Ext.trans b15 (Ext.trans b16 (Ext.trans b17 (Ext.trans b18 (Ext.trans b19 (Ext.trans b20 (Ext.trans b21 (Ext.trans b22 b23))))))))))))))))))))).mono ?_; rintro e w24 ⟨_, rfl, b24, rfl⟩; (first | have XE := Ext.trans XE b24 | have XE := Ext.trans (Ext.trans XE (Ext.alloc _ _)) b24))
     | (go_at_call 23; refine (is_yes O22.out (RA.out.ext (Ext.trans b7 (Ext.trans b8 (Ext.trans b9 (Ext.trans b10 (Ext.trans b11 (Ext.trans b12 (Ext.trans b13 (Ext.trans b14 (Ext.trans b15 (Ext.trans b16 (Ext.trans b17 (Ext.trans b18 (Ext.trans b19 (Ext.trans b20 (Ext.trans b21 b22)))))))))))))))) (SP.out.absQ.le (by decide))).mono ?_; rintro e w23 ⟨_, rfl, b23, rfl⟩; (first | have XE := Ext.trans XE b23 | have XE := Ext.trans (Ext.trans XE (Ext.alloc _ _)) b23))
     | (go_at_call 41; refine (rabs_any (RQ2.out.ext (Ext.trans b4 (Ext.trans b5 (Ext.trans b6 (Ext.trans b7 (Ext.trans b8 (Ext.trans b9 (Ext.trans b10 (Ext.trans b11 (Ext.trans b12 (Ext.trans b13 (Ext.trans b14 (Ext.trans b15 (Ext.trans b16 (Ext.trans b17 (Ext.trans b18 (Ext.trans b19 (Ext.trans b20 b21))))))))))))))))))).mono ?_; rintro e w22 ⟨v22, rfl, b22, o22⟩; have O22 := Lib.hid o22; clear o22; (first | have XE := Ext.trans XE b22 | have XE := Ext.trans (Ext.trans XE (Ext.alloc _ _)) b22))
     | (go_at_call 23; refine (is_yes (O19.out.ext b20) O20.out (SP.out.neg.le (by decide))).mono ?_; rintro e w21 ⟨_, rfl, b21, rfl⟩; (first | have XE := Ext.trans XE b21 | have XE := Ext.trans (Ext.trans XE (Ext.alloc _ _)) b21))
     | (go_at_call 39; refine (r5neg_any (RP2.out.ext (Ext.trans b4 (Ext.trans b5 (Ext.trans b6 (Ext.trans b7 (Ext.trans b8 (Ext.trans b9 (Ext.trans b10 (Ext.trans b11 (Ext.trans b12 (Ext.trans b13 (Ext.trans b14 (Ext.trans b15 (Ext.trans b16 (Ext.trans b17 (Ext.trans b18 b19))))))))))))))))).mono ?_; rintro e w20 ⟨v20, rfl, b20, o20⟩; have O20 := Lib.hid o20; clear o20; (first | have XE := Ext.trans XE b20 | have XE := Ext.trans (Ext.trans XE (Ext.alloc _ _)) b20))
     | (go_at_call 40; refine (rneg_any (RQ2.out.ext (Ext.trans b4 (Ext.trans b5 (Ext.trans b6 (Ext.trans b7 (Ext.trans b8 (Ext.trans b9 (Ext.trans b10 (Ext.trans b11 (Ext.trans b12 (Ext.trans b13 (Ext.trans b14 (Ext.trans b15 (Ext.trans b16 (Ext.trans b17 b18)))))))))))))))).mono ?_; rintro e w19 ⟨v19, rfl, b19, o19⟩; have O19 := Lib.hid o19; clear o19; (first | have XE := Ext.trans XE b19 | have XE := Ext.trans (Ext.trans XE (Ext.alloc _ _)) b19))
     | (go_at_call 23; refine (is_yes (O16.out.ext b17).rd O17.out.rd ((SP.out.mul SQ.out).le (by decide))).mono ?_; rintro e w18 ⟨_, rfl, b18, rfl⟩; (first | have XE := Ext.trans XE b18 | have XE := Ext.trans (Ext.trans XE (Ext.alloc _ _)) b18))
     | (go_at_call 28; refine (r5mul_any (RP2.out.ext (Ext.trans b4 (Ext.trans b5 (Ext.trans b6 (Ext.trans b7 (Ext.trans b8 (Ext.trans b9 (Ext.trans b10 (Ext.trans b11 (Ext.trans b12 (Ext.trans b13 (Ext.trans b14 (Ext.trans b15 b16))))))))))))) (RP4.out.ext (Ext.trans b6 (Ext.trans b7 (Ext.trans b8 (Ext.trans b9 (Ext.trans b10 (Ext.trans b11 (Ext.trans b12 (Ext.trans b13 (Ext.trans b14 (Ext.trans b15 b16))))))))))) (SP.out.bits.le (by decide)) (SQ.out.bits.le (by decide))).mono ?_; rintro e w17 ⟨v17, rfl, b17, o17⟩; have O17 := Lib.hid o17; clear o17; (first | have XE := Ext.trans XE b17 | have XE := Ext.trans (Ext.trans XE (Ext.alloc _ _)) b17))
     | (go_at_call 36; refine (rmul_any (RQ2.out.ext (Ext.trans b4 (Ext.trans b5 (Ext.trans b6 (Ext.trans b7 (Ext.trans b8 (Ext.trans b9 (Ext.trans b10 (Ext.trans b11 (Ext.trans b12 (Ext.trans b13 (Ext.trans b14 b15)))))))))))) (RQ4.out.ext (Ext.trans b6 (Ext.trans b7 (Ext.trans b8 (Ext.trans b9 (Ext.trans b10 (Ext.trans b11 (Ext.trans b12 (Ext.trans b13 (Ext.trans b14 b15)))))))))) (SP.out.le (by decide)) (SQ.out.le (by decide))).mono ?_; rintro e w16 ⟨v16, rfl, b16, o16⟩; have O16 := Lib.hid o16; clear o16; (first | have XE := Ext.trans XE b16 | have XE := Ext.trans (Ext.trans XE (Ext.alloc _ _)) b16))
     | (go_at_call 23; refine (is_yes (O12.out.ext (Ext.trans b13 b14)).rd (HSB.out O14.out.rd) ((SP.out.sub SQ.out).le (by decide))).mono ?_; rintro e w15 ⟨_, rfl, b15, rfl⟩; (first | have XE := Ext.trans XE b15 | have XE := Ext.trans (Ext.trans XE (Ext.alloc _ _)) b15))
     | (go_at_call 38; refine (r5add_any (RP2.out.ext (Ext.trans b4 (Ext.trans b5 (Ext.trans b6 (Ext.trans b7 (Ext.trans b8 (Ext.trans b9 (Ext.trans b10 (Ext.trans b11 (Ext.trans b12 b13)))))))))) O13.out (SP.out.bits.le (by decide)) (Sb.neg (SQ.out.bits.le (by decide)))).mono ?_; rintro e w14 ⟨v14, rfl, b14, o14⟩; have O14 := Lib.hid o14; clear o14; (first | have XE := Ext.trans XE b14 | have XE := Ext.trans (Ext.trans XE (Ext.alloc _ _)) b14))
     | (go_at_call 39; refine (r5neg_any (RP4.out.ext (Ext.trans b6 (Ext.trans b7 (Ext.trans b8 (Ext.trans b9 (Ext.trans b10 (Ext.trans b11 b12)))))))).mono ?_; rintro e w13 ⟨v13, rfl, b13, o13⟩; have O13 := Lib.hid o13; clear o13; (first | have XE := Ext.trans XE b13 | have XE := Ext.trans (Ext.trans XE (Ext.alloc _ _)) b13))
     | (go_at_call 37; refine (rsub_any (RQ2.out.ext (Ext.trans b4 (Ext.trans b5 (Ext.trans b6 (Ext.trans b7 (Ext.trans b8 (Ext.trans b9 (Ext.trans b10 b11)))))))) (RQ4.out.ext (Ext.trans b6 (Ext.trans b7 (Ext.trans b8 (Ext.trans b9 (Ext.trans b10 b11)))))) (SP.out.le (by decide)) (SQ.out.le (by decide))).mono ?_; rintro e w12 ⟨v12, rfl, b12, o12⟩; have O12 := Lib.hid o12; clear o12; (first | have XE := Ext.trans XE b12 | have XE := Ext.trans (Ext.trans XE (Ext.alloc _ _)) b12))
     | (go_at_call 23; refine (is_yes (O9.out.ext b10).rd O10.out.rd ((SP.out.add SQ.out).le (by decide))).mono ?_; rintro e w11 ⟨_, rfl, b11, rfl⟩; (first | have XE := Ext.trans XE b11 | have XE := Ext.trans (Ext.trans XE (Ext.alloc _ _)) b11))
     | (go_at_call 38; refine (r5add_any (RP2.out.ext (Ext.trans b4 (Ext.trans b5 (Ext.trans b6 (Ext.trans b7 (Ext.trans b8 b9)))))) (RP4.out.ext (Ext.trans b6 (Ext.trans b7 (Ext.trans b8 b9)))) (SP.out.bits.le (by decide)) (SQ.out.bits.le (by decide))).mono ?_; rintro e w10 ⟨v10, rfl, b10, o10⟩; have O10 := Lib.hid o10; clear o10; (first | have XE := Ext.trans XE b10 | have XE := Ext.trans (Ext.trans XE (Ext.alloc _ _)) b10))
     | (go_at_call 35; refine (radd_any (RQ2.out.ext (Ext.trans b4 (Ext.trans b5 (Ext.trans b6 (Ext.trans b7 b8))))) (RQ4.out.ext (Ext.trans b6 (Ext.trans b7 b8))) (SP.out.le (by decide)) (SQ.out.le (by decide))).mono ?_; rintro e w9 ⟨v9, rfl, b9, o9⟩; have O9 := Lib.hid o9; clear o9; (first | have XE := Ext.trans XE b9 | have XE := Ext.trans (Ext.trans XE (Ext.alloc _ _)) b9))
     | (go_at_call 25; refine (awake05).mono ?_; rintro e w8 ⟨_, rfl, b8, rfl⟩; (first | have XE := Ext.trans XE b8 | have XE := Ext.trans (Ext.trans XE (Ext.alloc _ _)) b8)))
  go_wp2_with fail
  exact hR.out _ _ (Gives.mk (Ext.trans (Ext.trans b1 (Ext.trans b2 (Ext.trans b3 (Ext.trans b4 (Ext.trans b5 (Ext.trans b6 (Ext.trans b7 (Ext.trans b8 (Ext.trans b9 (Ext.trans b10 (Ext.trans b11 (Ext.trans b12 (Ext.trans b13 (Ext.trans b14 (Ext.trans b15 (Ext.trans b16 (Ext.trans b17 (Ext.trans b18 (Ext.trans b19 (Ext.trans b20 (Ext.trans b21 (Ext.trans b22 (Ext.trans b23 (Ext.trans b24 b25)))))))))))))))))))))))) (Ext.trans (Ext.trans (Ext.alloc _ _) b26) (Ext.trans b27 (Ext.trans b28 (Ext.trans b29 (Ext.trans b30 (Ext.trans b31 b32))))))) rfl)
theorem own : ownKnob Try.prog.godebug = none := by kernel_rfl
theorem laidOut : laidOutB Try.prog = true := by kernel_rfl

set_option maxRecDepth 100000 in
theorem contract (H : Type) (enc : TypeId × Value → H) (W : World) (base : Nat) (args : Array Value) (ds gs : List (DataW H)) (before : List MemPlace)
    (hval : ∀ (j : Nat) t v, Try.f7.params[j]? = some t → args[j]? = some v → Value.okWide Try.prog W .any base t v)
    (hW : DataW.Whole enc Try.prog Try.f7.params.toList Rows.ratSumsSpec.vars false W args.toList ds gs before) (hk : Rows.uptoSmall H (ds ++ gs) = true) :
    Calls Try.prog 7 args W fun e W' => ∃ v, e = .returned v ∧ Rows.ratSumsSpec.post enc Try.prog Try.f7 false true false false W args v W' := by
  have hW' := hW
  obtain ⟨p, q, hA0, hV, rfl, hfz, hnd⟩ := hW
  have hA : DataW.TrodAll enc Try.prog W 0 (fun _ => true) true Try.f7.params.toList args.toList ds p := hA0
  rw [Try.params7] at hA hval
  obtain ⟨v0, vs0, d0, ds0, p0, q0, hargs, rfl, rfl, h0, r0⟩ := trodAll_cons hA
  obtain ⟨v1, vs1, d1, ds1, p1, q1, rfl, rfl, rfl, h1, r1⟩ := trodAll_cons r0
  obtain ⟨rfl, rfl, rfl⟩ := trodAll_nil r1
  obtain rfl : args = #[v0, v1] := by cases args; simp_all
  obtain ⟨rfl, rfl⟩ := trodVars_none hV
  have hb := bulk_small hk
  simp only [List.append_nil, bulk_cons, bulk_nil] at hb
  have k0 := h0
  have lt0 : ∀ x ∈ p0, x.block < W.heap.size := by obtain ⟨m, hm⟩ := k0; exact DataW.trod_lt m _ _ _ hm
  obtain ⟨s0, x0, y0, rd0, len0⟩ := open_N (hval 0 34 v0 rfl rfl) h0
  have k1 := h1
  have lt1 : ∀ x ∈ p1, x.block < W.heap.size := by obtain ⟨m, hm⟩ := k1; exact DataW.trod_lt m _ _ _ hm
  obtain ⟨s1, x1, y1, rd1, len1⟩ := open_N (hval 1 34 v1 rfl rfl) h1
  clear hA0
  refine (walk rd0 (by omega) (by omega) rd1 (by omega) (by omega)).mono fun e W' ⟨v, he, bel, hv⟩ => ?_
  subst he hv
  exact ⟨_, rfl, _, _, _, [], _, [], hW', trodAll_mk1 (shut_bool Try.underlying4 _), (trodAll_cons_mk (Below.trod laidOut (by kernel_rfl) (of_decide_eq_true (by kernel_rfl)) k0 bel lt0) (trodAll_cons_mk (Below.trod laidOut (by kernel_rfl) (of_decide_eq_true (by kernel_rfl)) k1 bel lt1) trodAll_mk0)), rfl, bel.frame _, fun h => by cases h⟩

set_option maxRecDepth 100000 in
theorem lifted (os : Os) (started : os.Started) (H : Type) (enc : TypeId × Value → H) (F : Stop.Interp) :
    ReturnsInHanded {} Try.checked os 7 .any ((Rows.OpenSpec.upto Rows.ratSumsSpec).pre6 enc Try.prog Try.f7 Rows.ratSumsUptoRow.domain false) (((Rows.OpenSpec.upto Rows.ratSumsSpec).at F).post enc Try.prog Try.f7 false true false false) := by
  refine returnsInHanded_of_cond (C := Try.checked) (s := Rows.OpenSpec.upto Rows.ratSumsSpec) (k := Rows.uptoSmall) rfl own started (by kernel_rfl) Try.func7
    (OpenSpec.witness (enc := enc) (C := Try.checked) (s := Rows.OpenSpec.upto Rows.ratSumsSpec) (k := Rows.uptoSmall) rfl false ⟨#[], #[.agg #[.bool false, .slice none 0 0, .slice none 0 0], .agg #[.bool false, .slice none 0 0, .slice none 0 0]], []⟩ 8 (by kernel_rfl) (by kernel_rfl) (by kernel_rfl)
      (x := ([.agg [.lit (.bool false), .nil, .nil], .agg [.lit (.bool false), .nil, .nil]], [], [])) (by kernel_rfl) rfl (by kernel_rfl)) ?_
  intro W base args ds gs before hval hW _ hk _
  exact contract H enc W base args ds gs before hval hW hk

theorem proved : Rows.RatSumsUptoSaid :=
  OpenClaim.holds_of_cond 7 Try.f7 rfl rfl rfl rfl rfl rfl rfl ⟨rfl, rfl, rfl, rfl, rfl⟩ rfl rfl rfl rfl rfl (by kernel_rfl) Try.func7 (by kernel_rfl)
    (of_decide_eq_true (by kernel_rfl)) (by unfold Func.isWrapper; first | (rw [if_pos (by decide +kernel)]; kernel_rfl) | (rw [if_neg (by decide +kernel)]; exact ⟨rfl, rfl⟩))
    (fun os started H enc _ F => lifted os started H enc F)
#print axioms proved

end Go.Proofs.Ytjnbhinjpinkaaa.ratSums
