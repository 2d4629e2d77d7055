/- DeltaOrder: their order goes by the plain part first and the infinitely small part next. Conditions: the arguments hold together at most 1048576 values (the second form, Upto). -/
import Derived.Test.YtjnbhinjpinkaaaFrameD
import Derived.Test.YtjnbhinjpinkaaaPBoth07
import Derived.Test.YtjnbhinjpinkaaaPAwake07
namespace Go.Proofs.Ytjnbhinjpinkaaa.deltaOrder
open Go.ChangeShapes Go.WideShapes Go.ChangeAt Go.RowKit Go.Att

theorem shape_Q {w : World} {x y z : Value} {q : Rat} (h : RdQ w (.agg #[x, y, z]) q) : ∃ a c b d, x = .bool (decide (q.num < 0)) ∧ y = .slice a (limbs q.num.natAbs).length c ∧ z = .slice b (dens q.den).length d := by
  obtain ⟨n, m, he, h1, h2⟩ := h
  obtain ⟨rfl, rfl, rfl⟩ : x = .bool (decide (q.num < 0)) ∧ y = n ∧ z = m := by simpa using he
  obtain ⟨a, c, rfl, -, -, -, -⟩ := h1.1.shape
  obtain ⟨b, d, rfl, -, -, -, -⟩ := h2.1.shape
  exact ⟨a, c, b, d, rfl, rfl, rfl⟩
theorem shape_P {w : World} {x y z : Value} {q : Rat} (h : RdP w (.agg #[x, y, z]) q) : ∃ a c b d, x = .bool (decide (q.num < 0)) ∧ y = .slice a (bitsOf q.num.natAbs).length c ∧ z = .slice b (bitsOf q.den).length d := by
  obtain ⟨n, m, he, h1, h2⟩ := h
  obtain ⟨rfl, rfl, rfl⟩ : x = .bool (decide (q.num < 0)) ∧ y = n ∧ z = m := by simpa using he
  obtain ⟨a, c, rfl, -, -, -, -⟩ := h1.shape
  obtain ⟨b, d, rfl, -, -, -, -⟩ := h2.shape
  exact ⟨a, c, b, d, rfl, rfl, rfl⟩
theorem wrap_neg {t : Int} (h1 : -1 ≤ t) (h2 : t ≤ 1) : IntKind.i64.wrap (-t) = -t := by
  rcases (by omega : t = -1 ∨ t = 0 ∨ t = 1) with rfl | rfl | rfl <;> rfl
theorem sub_sign (a c : Rat) : (c - a).num.sign = -(a - c).num.sign := by
  have h : c - a = -(a - c) := by rw [Rat.sub_eq_add_neg, Rat.sub_eq_add_neg, Rat.neg_add, Rat.neg_neg, Rat.add_comm]
  rw [h, Rat.neg_num, Int.sign_neg]
theorem cmpD_neg (a b c d : Rat) : cmpD c d a b = -cmpD a b c d := by
  unfold cmpD
  rw [sub_sign a c, sub_sign b d]
  by_cases h : (a - c).num.sign = 0
  · rw [if_pos (by omega), if_pos h]
  · rw [if_neg (by omega), if_neg h]
theorem cmpD_rng (a b c d : Rat) : -1 ≤ cmpD a b c d ∧ cmpD a b c d ≤ 1 := by
  have e : ∀ z : Int, -1 ≤ z.sign ∧ z.sign ≤ 1 := fun z => by
    rcases Int.lt_trichotomy z 0 with h | h | h
    · rw [Int.sign_eq_neg_one_of_neg h]; omega
    · rw [h]; decide
    · rw [Int.sign_eq_one_of_pos h]; omega
  unfold cmpD
  split
  · exact e _
  · exact e _
theorem r7cmp_to {w : World} {va vb : Value} {a b c d : Rat} {t : Int} (hp : RdE w va a b) (hq : RdE w vb c d) (sa : Sb 50000 a) (sb : Sb 50000 b) (sc : Sb 50000 c) (sd : Sb 50000 d) (h : cmpD a b c d = t) :
    Calls Try.prog 57 #[va, vb] w (Gives w fun v' _ => v' = .int .i64 t) := h ▸ r7cmp_any hp hq sa sb sc sd

set_option maxHeartbeats 4000000 in
set_option linter.unusedSimpArgs false in
theorem walk {w : World} {v0 v1 : Value} {s0 s0' s1 s1' : Bool} {x0 y0 x0' y0' x1 y1 x1' y1' : List Nat} (hv0 : RdND w v0 s0 x0 y0 s0' x0' y0') (hx0 : x0.length ≤ 1048576) (hy0 : y0.length ≤ 1048576) (hx0' : x0'.length ≤ 1048576) (hy0' : y0'.length ≤ 1048576)
    (hv1 : RdND w v1 s1 x1 y1 s1' x1' y1') (hx1 : x1.length ≤ 1048576) (hy1 : y1.length ≤ 1048576) (hx1' : x1'.length ≤ 1048576) (hy1' : y1'.length ≤ 1048576) :
    Calls Try.prog 11 #[v0, v1] w (Gives w fun v' _ => v' = .bool true) := by
  refine via fun R hR => ?_
  have HV0 := Lib.hid hv0
  have HV1 := Lib.hid hv1
  obtain ⟨u0, u1, u2, u3, u4, u5, rfl, g1, g2⟩ := hv0
  obtain ⟨v0, v1, v2, v3, v4, v5, rfl, g3, g4⟩ := hv1
  have SA : Hid (Sz 8 (qOf s0 x0 y0)) := by obtain ⟨_, _, _, h1, h2⟩ := g1; exact qOf_sz h1.2 h2.2
  have SB : Hid (Sz 8 (qOf s0' x0' y0')) := by obtain ⟨_, _, _, h1, h2⟩ := g2; exact qOf_sz h1.2 h2.2
  have SC : Hid (Sz 8 (qOf s1 x1 y1)) := by obtain ⟨_, _, _, h1, h2⟩ := g3; exact qOf_sz h1.2 h2.2
  have SD : Hid (Sz 8 (qOf s1' x1' y1')) := by obtain ⟨_, _, _, h1, h2⟩ := g4; exact qOf_sz h1.2 h2.2
  clear g1 g2 g3 g4
  have HA : Hid (∀ (w : World) (v : Value), RdND w v s0 x0 y0 s0' x0' y0' → Calls Try.prog 54 #[v] w (Gives w fun v' w' => ∃ o1 o2, v' = .tuple #[o1, o2] ∧ RdD w' o1 (qOf s0 x0 y0) (qOf s0' x0' y0') ∧ RdE w' o2 (qOf s0 x0 y0) (qOf s0' x0' y0'))) := fun w v h => both07 h (by omega) (by omega) (by omega) (by omega)
  have HB : Hid (∀ (w : World) (v : Value), RdND w v s1 x1 y1 s1' x1' y1' → Calls Try.prog 54 #[v] w (Gives w fun v' w' => ∃ o1 o2, v' = .tuple #[o1, o2] ∧ RdD w' o1 (qOf s1 x1 y1) (qOf s1' x1' y1') ∧ RdE w' o2 (qOf s1 x1 y1) (qOf s1' x1' y1'))) := fun w v h => both07 h (by omega) (by omega) (by omega) (by omega)
  generalize qOf s0 x0 y0 = a at *
  generalize qOf s0' x0' y0' = b at *
  generalize qOf s1 x1 y1 = c at *
  generalize qOf s1' x1' y1' = d at *
  obtain ⟨t, ht1, ht2, HT, HT'⟩ : ∃ t : Int, -1 ≤ t ∧ t ≤ 1 ∧ Hid (cmpD a b c d = t) ∧ Hid (cmpD c d a b = -t) := ⟨_, (cmpD_rng a b c d).1, (cmpD_rng a b c d).2, rfl, cmpD_neg a b c d⟩
  obtain ⟨w1, hw1, b1, c1, c2, -, -, -⟩ := bx2 w [u0, u1, u2, u3, u4, u5] [v0, v1, v2, v3, v4, v5] 75 75
  have C2 := Lib.hid c2
  have HW := Lib.hid hw1
  obtain ⟨k0, k1, k2, k3, k4, k5⟩ := c1.c6
  clear hw1 c1 c2
  go_enter Try.func11, Try.ntmps11
  go_upto_region 1 with (fail)
  rw [← HW.out]
  clear HW
  go_wp2_with fail
  clear k0 k1 k2 k3 k4 k5
  refine (HA.out _ _ (HV0.out.ext b1)).mono ?_
  rintro e w2 ⟨_, rfl, b2, _, _, rfl, ⟨p0, p1, p2, p3, p4, p5, rfl, h1, h2⟩, ⟨q0, q1, q2, q3, q4, q5, rfl, h3, h4⟩⟩
  obtain ⟨qaa, qca, qba, qda, rfl, rfl, rfl⟩ := shape_Q h1
  obtain ⟨qab, qcb, qbb, qdb, rfl, rfl, rfl⟩ := shape_Q h2
  obtain ⟨paa, pca, pba, pda, rfl, rfl, rfl⟩ := shape_P h3
  obtain ⟨pab, pcb, pbb, pdb, rfl, rfl, rfl⟩ := shape_P h4
  obtain ⟨w3, hw, b3, c1, c2, -, -, -⟩ := bx2 w2 [.bool (decide (a.num < 0)), .slice qaa (limbs a.num.natAbs).length qca, .slice qba (dens a.den).length qda, .bool (decide (b.num < 0)), .slice qab (limbs b.num.natAbs).length qcb, .slice qbb (dens b.den).length qdb] [.bool (decide (a.num < 0)), .slice paa (bitsOf a.num.natAbs).length pca, .slice pba (bitsOf a.den).length pda, .bool (decide (b.num < 0)), .slice pab (bitsOf b.num.natAbs).length pcb, .slice pbb (bitsOf b.den).length pdb] 77 79
  have HW := Lib.hid hw
  have CQ2 := Lib.hid c1
  have CP2 := Lib.hid c2
  have RD2 : Hid (RdD w3 (.agg #[.bool (decide (a.num < 0)), .slice qaa (limbs a.num.natAbs).length qca, .slice qba (dens a.den).length qda, .bool (decide (b.num < 0)), .slice qab (limbs b.num.natAbs).length qcb, .slice qbb (dens b.den).length qdb]) a b) := ⟨_, _, _, _, _, _, rfl, h1.ext b3, h2.ext b3⟩
  have RE2 : Hid (RdE w3 (.agg #[.bool (decide (a.num < 0)), .slice paa (bitsOf a.num.natAbs).length pca, .slice pba (bitsOf a.den).length pda, .bool (decide (b.num < 0)), .slice pab (bitsOf b.num.natAbs).length pcb, .slice pbb (bitsOf b.den).length pdb]) a b) := ⟨_, _, _, _, _, _, rfl, h3.ext b3, h4.ext b3⟩
  clear hw c1 c2 h1 h2 h3 h4
  go_upto_region 2 with (fail)
  rw [← HW.out]
  clear HW
  generalize Value.slice qaa (limbs a.num.natAbs).length qca = xna at *
  generalize Value.slice qba (dens a.den).length qda = xda at *
  generalize Value.slice qab (limbs b.num.natAbs).length qcb = xnb at *
  generalize Value.slice qbb (dens b.den).length qdb = xdb at *
  generalize Value.slice paa (bitsOf a.num.natAbs).length pca = yna at *
  generalize Value.slice pba (bitsOf a.den).length pda = yda at *
  generalize Value.slice pab (bitsOf b.num.natAbs).length pcb = ynb at *
  generalize Value.slice pbb (bitsOf b.den).length pdb = ydb at *
  generalize Value.bool (decide (a.num < 0)) = xsa at *
  generalize Value.bool (decide (b.num < 0)) = xsb at *
  obtain ⟨k0, k1, k2, k3, k4, k5⟩ := (C2.out.ext (Ext.trans b2 b3)).c6
  go_wp2_with fail
  clear k0 k1 k2 k3 k4 k5
  refine (HB.out _ _ (HV1.out.ext (Ext.trans b1 (Ext.trans b2 b3)))).mono ?_
  rintro e w4 ⟨_, rfl, b4, _, _, rfl, ⟨p0, p1, p2, p3, p4, p5, rfl, h1, h2⟩, ⟨q0, q1, q2, q3, q4, q5, rfl, h3, h4⟩⟩
  obtain ⟨qac, qcc, qbc, qdc, rfl, rfl, rfl⟩ := shape_Q h1
  obtain ⟨qad, qcd, qbd, qdd, rfl, rfl, rfl⟩ := shape_Q h2
  obtain ⟨pac, pcc, pbc, pdc, rfl, rfl, rfl⟩ := shape_P h3
  obtain ⟨pad, pcd, pbd, pdd, rfl, rfl, rfl⟩ := shape_P h4
  obtain ⟨w5, hw, b5, c1, c2, -, -, -⟩ := bx2 w4 [.bool (decide (c.num < 0)), .slice qac (limbs c.num.natAbs).length qcc, .slice qbc (dens c.den).length qdc, .bool (decide (d.num < 0)), .slice qad (limbs d.num.natAbs).length qcd, .slice qbd (dens d.den).length qdd] [.bool (decide (c.num < 0)), .slice pac (bitsOf c.num.natAbs).length pcc, .slice pbc (bitsOf c.den).length pdc, .bool (decide (d.num < 0)), .slice pad (bitsOf d.num.natAbs).length pcd, .slice pbd (bitsOf d.den).length pdd] 77 79
  have HW := Lib.hid hw
  have CQ4 := Lib.hid c1
  have CP4 := Lib.hid c2
  have RD4 : Hid (RdD w5 (.agg #[.bool (decide (c.num < 0)), .slice qac (limbs c.num.natAbs).length qcc, .slice qbc (dens c.den).length qdc, .bool (decide (d.num < 0)), .slice qad (limbs d.num.natAbs).length qcd, .slice qbd (dens d.den).length qdd]) c d) := ⟨_, _, _, _, _, _, rfl, h1.ext b5, h2.ext b5⟩
  have RE4 : Hid (RdE w5 (.agg #[.bool (decide (c.num < 0)), .slice pac (bitsOf c.num.natAbs).length pcc, .slice pbc (bitsOf c.den).length pdc, .bool (decide (d.num < 0)), .slice pad (bitsOf d.num.natAbs).length pcd, .slice pbd (bitsOf d.den).length pdd]) c d) := ⟨_, _, _, _, _, _, rfl, h3.ext b5, h4.ext b5⟩
  clear hw c1 c2 h1 h2 h3 h4
  go_upto_region 3 with (fail)
  rw [← HW.out]
  clear HW
  generalize Value.slice qac (limbs c.num.natAbs).length qcc = xnc at *
  generalize Value.slice qbc (dens c.den).length qdc = xdc at *
  generalize Value.slice qad (limbs d.num.natAbs).length qcd = xnd at *
  generalize Value.slice qbd (dens d.den).length qdd = xdd at *
  generalize Value.slice pac (bitsOf c.num.natAbs).length pcc = ync at *
  generalize Value.slice pbc (bitsOf c.den).length pdc = ydc at *
  generalize Value.slice pad (bitsOf d.num.natAbs).length pcd = ynd at *
  generalize Value.slice pbd (bitsOf d.den).length pdd = ydd at *
  generalize Value.bool (decide (c.num < 0)) = xsc at *
  generalize Value.bool (decide (d.num < 0)) = xsd at *
  clear C2 HV0 HV1 HA HB
  have D1 := Lib.hid (CQ2.out.ext (Ext.trans b4 b5))
  have D2 := Lib.hid (CP2.out.ext (Ext.trans b4 b5))
  clear CQ2 CP2
  have hng := wrap_neg ht1 ht2
  have b6 := drew_ext w5
  have XE := b6
  go_region_held3 (fun w' => (w'.cell? ⟨w2.heap.size, 0, none⟩ = some (xsa) ∧ w'.cell? ⟨w2.heap.size, 1, none⟩ = some (xna) ∧ w'.cell? ⟨w2.heap.size, 2, none⟩ = some (xda) ∧ w'.cell? ⟨w2.heap.size, 3, none⟩ = some (xsb) ∧ w'.cell? ⟨w2.heap.size, 4, none⟩ = some (xnb) ∧ w'.cell? ⟨w2.heap.size, 5, none⟩ = some (xdb)) ∧ (w'.cell? ⟨w2.heap.size + 1, 0, none⟩ = some (xsa) ∧ w'.cell? ⟨w2.heap.size + 1, 1, none⟩ = some (yna) ∧ w'.cell? ⟨w2.heap.size + 1, 2, none⟩ = some (yda) ∧ w'.cell? ⟨w2.heap.size + 1, 3, none⟩ = some (xsb) ∧ w'.cell? ⟨w2.heap.size + 1, 4, none⟩ = some (ynb) ∧ w'.cell? ⟨w2.heap.size + 1, 5, none⟩ = some (ydb)) ∧ (w'.cell? ⟨w4.heap.size, 0, none⟩ = some (xsc) ∧ w'.cell? ⟨w4.heap.size, 1, none⟩ = some (xnc) ∧ w'.cell? ⟨w4.heap.size, 2, none⟩ = some (xdc) ∧ w'.cell? ⟨w4.heap.size, 3, none⟩ = some (xsd) ∧ w'.cell? ⟨w4.heap.size, 4, none⟩ = some (xnd) ∧ w'.cell? ⟨w4.heap.size, 5, none⟩ = some (xdd)) ∧ (w'.cell? ⟨w4.heap.size + 1, 0, none⟩ = some (xsc) ∧ w'.cell? ⟨w4.heap.size + 1, 1, none⟩ = some (ync) ∧ w'.cell? ⟨w4.heap.size + 1, 2, none⟩ = some (ydc) ∧ w'.cell? ⟨w4.heap.size + 1, 3, none⟩ = some (xsd) ∧ w'.cell? ⟨w4.heap.size + 1, 4, none⟩ = some (ynd) ∧ w'.cell? ⟨w4.heap.size + 1, 5, none⟩ = some (ydd))) (exact ⟨(D1.out.ext XE).c6, (D2.out.ext XE).c6, (CQ4.out.ext XE).c6, (CP4.out.ext XE).c6⟩)
    (first
     | (go_at_call 57; refine (r7cmp_to (RE2.out.ext (Ext.trans b4 (Ext.trans b5 (Ext.trans b6 (Ext.trans b7 (Ext.trans b8 (Ext.trans b9 b10))))))) (RE4.out.ext (Ext.trans b6 (Ext.trans b7 (Ext.trans b8 (Ext.trans b9 b10))))) (SA.out.bits.le (by decide)) (SB.out.bits.le (by decide)) (SC.out.bits.le (by decide)) (SD.out.bits.le (by decide)) HT.out).mono ?_; rintro e w11 ⟨_, rfl, b11, rfl⟩; (first | have XE := Ext.trans XE b11 | have XE := Ext.trans (Ext.trans XE (Ext.alloc _ _)) b11))
     | (go_at_call 56; refine (dcmp_to (RD4.out.ext (Ext.trans b6 (Ext.trans b7 (Ext.trans b8 b9)))) (RD2.out.ext (Ext.trans b4 (Ext.trans b5 (Ext.trans b6 (Ext.trans b7 (Ext.trans b8 b9)))))) (SC.out.le (by decide)) (SD.out.le (by decide)) (SA.out.le (by decide)) (SB.out.le (by decide)) HT'.out).mono ?_; rintro e w10 ⟨_, rfl, b10, rfl⟩; (first | have XE := Ext.trans XE b10 | have XE := Ext.trans (Ext.trans XE (Ext.alloc _ _)) b10))
     | (go_at_call 57; refine (r7cmp_to (RE2.out.ext (Ext.trans b4 (Ext.trans b5 (Ext.trans b6 (Ext.trans b7 b8))))) (RE4.out.ext (Ext.trans b6 (Ext.trans b7 b8))) (SA.out.bits.le (by decide)) (SB.out.bits.le (by decide)) (SC.out.bits.le (by decide)) (SD.out.bits.le (by decide)) HT.out).mono ?_; rintro e w9 ⟨_, rfl, b9, rfl⟩; (first | have XE := Ext.trans XE b9 | have XE := Ext.trans (Ext.trans XE (Ext.alloc _ _)) b9))
     | (go_at_call 56; refine (dcmp_to (RD2.out.ext (Ext.trans b4 (Ext.trans b5 (Ext.trans b6 b7)))) (RD4.out.ext (Ext.trans b6 b7)) (SA.out.le (by decide)) (SB.out.le (by decide)) (SC.out.le (by decide)) (SD.out.le (by decide)) HT.out).mono ?_; rintro e w8 ⟨_, rfl, b8, rfl⟩; (first | have XE := Ext.trans XE b8 | have XE := Ext.trans (Ext.trans XE (Ext.alloc _ _)) b8))
     | (go_at_call 55; refine (awake07).mono ?_; rintro e w7 ⟨_, rfl, b7, rfl⟩; (first | have XE := Ext.trans XE b7 | have XE := Ext.trans (Ext.trans XE (Ext.alloc _ _)) b7)))
  go_wp2_with fail
  exact hR.out _ _ (Gives.mk (Ext.trans b1 (Ext.trans b2 (Ext.trans b3 (Ext.trans b4 (Ext.trans b5 (Ext.trans b6 (Ext.trans b7 (Ext.trans b8 (Ext.trans b9 (Ext.trans b10 b11)))))))))) rfl)
theorem own : ownKnob Try.prog.godebug = none := by kernel_rfl
theorem laidOut : laidOutB Try.prog = true := by kernel_rfl

set_option maxRecDepth 100000 in
theorem contract (H : Type) (enc : TypeId × Value → H) (W : World) (base : Nat) (args : Array Value) (ds gs : List (DataW H)) (before : List MemPlace)
    (hval : ∀ (j : Nat) t v, Try.f11.params[j]? = some t → args[j]? = some v → Value.okWide Try.prog W .any base t v)
    (hW : DataW.Whole enc Try.prog Try.f11.params.toList Rows.deltaOrderSpec.vars false W args.toList ds gs before) (hk : Rows.uptoSmall H (ds ++ gs) = true) :
    Calls Try.prog 11 args W fun e W' => ∃ v, e = .returned v ∧ Rows.deltaOrderSpec.post enc Try.prog Try.f11 false true false false W args v W' := by
  have hW' := hW
  obtain ⟨p, q, hA0, hV, rfl, hfz, hnd⟩ := hW
  have hA : DataW.TrodAll enc Try.prog W 0 (fun _ => true) true Try.f11.params.toList args.toList ds p := hA0
  rw [Try.params11] at hA hval
  obtain ⟨v0, vs0, d0, ds0, p0, q0, hargs, rfl, rfl, h0, r0⟩ := trodAll_cons hA
  obtain ⟨v1, vs1, d1, ds1, p1, q1, rfl, rfl, rfl, h1, r1⟩ := trodAll_cons r0
  obtain ⟨rfl, rfl, rfl⟩ := trodAll_nil r1
  obtain rfl : args = #[v0, v1] := by cases args; simp_all
  obtain ⟨rfl, rfl⟩ := trodVars_none hV
  have hb := bulk_small hk
  simp only [List.append_nil, bulk_cons, bulk_nil] at hb
  have k0 := h0
  have lt0 : ∀ x ∈ p0, x.block < W.heap.size := by obtain ⟨m, hm⟩ := k0; exact DataW.trod_lt m _ _ _ hm
  obtain ⟨s0, x0, y0, s0', x0', y0', rd0, len0⟩ := open_two Try.underlying75 rfl rfl rfl rfl (by kernel_rfl) (hval 0 75 v0 rfl rfl) h0
  have k1 := h1
  have lt1 : ∀ x ∈ p1, x.block < W.heap.size := by obtain ⟨m, hm⟩ := k1; exact DataW.trod_lt m _ _ _ hm
  obtain ⟨s1, x1, y1, s1', x1', y1', rd1, len1⟩ := open_two Try.underlying75 rfl rfl rfl rfl (by kernel_rfl) (hval 1 75 v1 rfl rfl) h1
  clear hA0
  refine (walk rd0 (by omega) (by omega) (by omega) (by omega) rd1 (by omega) (by omega) (by omega) (by omega)).mono fun e W' ⟨v, he, bel, hv⟩ => ?_
  subst he hv
  exact ⟨_, rfl, _, _, _, [], _, [], hW', trodAll_mk1 (shut_bool Try.underlying4 _), (trodAll_cons_mk (Below.trod laidOut (by kernel_rfl) (of_decide_eq_true (by kernel_rfl)) k0 bel lt0) (trodAll_cons_mk (Below.trod laidOut (by kernel_rfl) (of_decide_eq_true (by kernel_rfl)) k1 bel lt1) trodAll_mk0)), rfl, bel.frame _, fun h => by cases h⟩

set_option maxRecDepth 100000 in
theorem lifted (os : Os) (started : os.Started) (H : Type) (enc : TypeId × Value → H) (F : Stop.Interp) :
    ReturnsInHanded {} Try.checked os 11 .any ((Rows.OpenSpec.upto Rows.deltaOrderSpec).pre6 enc Try.prog Try.f11 Rows.deltaOrderUptoRow.domain false) (((Rows.OpenSpec.upto Rows.deltaOrderSpec).at F).post enc Try.prog Try.f11 false true false false) := by
  refine returnsInHanded_of_cond (C := Try.checked) (s := Rows.OpenSpec.upto Rows.deltaOrderSpec) (k := Rows.uptoSmall) rfl own started (by kernel_rfl) Try.func11
    (OpenSpec.witness (enc := enc) (C := Try.checked) (s := Rows.OpenSpec.upto Rows.deltaOrderSpec) (k := Rows.uptoSmall) rfl false ⟨#[], #[.agg #[.bool false, .slice none 0 0, .slice none 0 0, .bool false, .slice none 0 0, .slice none 0 0], .agg #[.bool false, .slice none 0 0, .slice none 0 0, .bool false, .slice none 0 0, .slice none 0 0]], []⟩ 8 (by kernel_rfl) (by kernel_rfl) (by kernel_rfl)
      (x := ([.agg [.agg [.lit (.bool false), .nil, .nil], .agg [.lit (.bool false), .nil, .nil]], .agg [.agg [.lit (.bool false), .nil, .nil], .agg [.lit (.bool false), .nil, .nil]]], [], [])) (by kernel_rfl) rfl (by kernel_rfl)) ?_
  intro W base args ds gs before hval hW _ hk _
  exact contract H enc W base args ds gs before hval hW hk

theorem proved : Rows.DeltaOrderUptoSaid :=
  OpenClaim.holds_of_cond 11 Try.f11 rfl rfl rfl rfl rfl rfl rfl ⟨rfl, rfl, rfl, rfl, rfl⟩ rfl rfl rfl rfl rfl (by kernel_rfl) Try.func11 (by kernel_rfl)
    (of_decide_eq_true (by kernel_rfl)) (by unfold Func.isWrapper; first | (rw [if_pos (by decide +kernel)]; kernel_rfl) | (rw [if_neg (by decide +kernel)]; exact ⟨rfl, rfl⟩))
    (fun os started H enc _ F => lifted os started H enc F)
#print axioms proved

end Go.Proofs.Ytjnbhinjpinkaaa.deltaOrder
