/- DeltaSums: numbers with an infinitely small part are added, scaled and evaluated part by part. Conditions: the arguments hold together at most 1048576 values (the second form, Upto). -/
import Derived.Test.YtpeeacdnjbcmiaaFrameD
import Derived.Test.YtpeeacdnjbcmiaaPBoth07
import Derived.Test.YtpeeacdnjbcmiaaPAwake07
import Derived.Test.YtpeeacdnjbcmiaaPDelta2
import Derived.Test.YtpeeacdnjbcmiaaPRef5Int
namespace Go.Proofs.Ytpeeacdnjbcmiaa.deltaSums
open Go.ChangeShapes Go.WideShapes Go.ChangeAt Go.RowKit Go.Att

set_option maxHeartbeats 8000000 in
set_option maxRecDepth 100000 in
set_option linter.unusedSimpArgs false in
theorem walk {w : World} {v0 v1 v2 : Value} {s0 s0' s1 s1' s2 : Bool} {x0 y0 x0' y0' x1 y1 x1' y1' x2 y2 : List Nat} (hv0 : RdND w v0 s0 x0 y0 s0' x0' y0') (hx0 : x0.length ≤ 1048576) (hy0 : y0.length ≤ 1048576) (hx0' : x0'.length ≤ 1048576) (hy0' : y0'.length ≤ 1048576)
    (hv1 : RdND w v1 s1 x1 y1 s1' x1' y1') (hx1 : x1.length ≤ 1048576) (hy1 : y1.length ≤ 1048576) (hx1' : x1'.length ≤ 1048576) (hy1' : y1'.length ≤ 1048576)
    (hv2 : RdN w v2 s2 x2 y2) (hx2 : x2.length ≤ 1048576) (hy2 : y2.length ≤ 1048576) :
    Calls Try.prog 3 #[v0, v1, v2] w (Gives w fun v' _ => v' = .bool true) := by
  refine via fun R hR => ?_
  have HV0 := Lib.hid hv0
  have HV1 := Lib.hid hv1
  have HV2 := Lib.hid hv2
  obtain ⟨u0, u1, u2, u3, u4, u5, rfl, g1, g2⟩ := hv0
  obtain ⟨v0, v1, v2, v3, v4, v5, rfl, g3, g4⟩ := hv1
  have SA : Hid (Sz 8 (qOf s0 x0 y0)) := by obtain ⟨_, _, _, h1, h2⟩ := g1; exact qOf_sz h1.2 h2.2
  have SB : Hid (Sz 8 (qOf s0' x0' y0')) := by obtain ⟨_, _, _, h1, h2⟩ := g2; exact qOf_sz h1.2 h2.2
  have SC : Hid (Sz 8 (qOf s1 x1 y1)) := by obtain ⟨_, _, _, h1, h2⟩ := g3; exact qOf_sz h1.2 h2.2
  have SD : Hid (Sz 8 (qOf s1' x1' y1')) := by obtain ⟨_, _, _, h1, h2⟩ := g4; exact qOf_sz h1.2 h2.2
  have SE : Hid (Sz 8 (qOf s2 x2 y2)) := by obtain ⟨_, _, _, h1, h2⟩ := hv2; exact qOf_sz h1.2 h2.2
  obtain ⟨z1, z2, rfl, -, -⟩ := hv2
  clear g1 g2 g3 g4
  have HA : Hid (∀ (w : World) (v : Value), RdND w v s0 x0 y0 s0' x0' y0' → Calls Try.prog 15 #[v] w (Gives w fun v' w' => ∃ o1 o2, v' = .tuple #[o1, o2] ∧ RdD w' o1 (qOf s0 x0 y0) (qOf s0' x0' y0') ∧ RdE w' o2 (qOf s0 x0 y0) (qOf s0' x0' y0'))) := fun w v h => both07 h (by omega) (by omega) (by omega) (by omega)
  have HB : Hid (∀ (w : World) (v : Value), RdND w v s1 x1 y1 s1' x1' y1' → Calls Try.prog 15 #[v] w (Gives w fun v' w' => ∃ o1 o2, v' = .tuple #[o1, o2] ∧ RdD w' o1 (qOf s1 x1 y1) (qOf s1' x1' y1') ∧ RdE w' o2 (qOf s1 x1 y1) (qOf s1' x1' y1'))) := fun w v h => both07 h (by omega) (by omega) (by omega) (by omega)
  have HN : Hid (∀ (w : World) (v : Value), RdN w v s2 x2 y2 → Calls Try.prog 16 #[v] w (Gives w fun v' w' => ∃ o1 o2, v' = .tuple #[o1, o2] ∧ OwnQ 148 w.heap.size w' o1 (qOf s2 x2 y2) ∧ OwnP 4 w.heap.size w' o2 (qOf s2 x2 y2))) := fun w v h => both_any h (by omega) (by omega)
  generalize qOf s0 x0 y0 = a at *
  generalize qOf s0' x0' y0' = b at *
  generalize qOf s1 x1 y1 = c at *
  generalize qOf s1' x1' y1' = d at *
  generalize qOf s2 x2 y2 = f at *
  obtain ⟨w1, hw1, b1, c1, c2, c3, -, -, -, -⟩ := bx3 w [u0, u1, u2, u3, u4, u5] [v0, v1, v2, v3, v4, v5] [.bool s2, z1, z2] 26 26 24
  have C2 := Lib.hid c2
  have C3 := Lib.hid c3
  have HW := Lib.hid hw1
  obtain ⟨k0, k1, k2, k3, k4, k5⟩ := c1.c6
  clear hw1 c1 c2 c3
  go_enter Try.func3, Try.ntmps3
  go_upto_region 1 with (fail)
  rw [← HW.out]
  clear HW
  go_wp2_with fail
  clear k0 k1 k2 k3 k4 k5
  refine (HA.out _ _ (HV0.out.ext b1)).mono ?_
  rintro e w2 ⟨_, rfl, b2, _, _, rfl, ⟨p0, p1, p2, p3, p4, p5, rfl, h1, h2⟩, ⟨q0, q1, q2, q3, q4, q5, rfl, h3, h4⟩⟩
  obtain ⟨qaa, qca, qba, qda, rfl, rfl, rfl⟩ := shape_Q h1
  obtain ⟨qab, qcb, qbb, qdb, rfl, rfl, rfl⟩ := shape_Q h2
  obtain ⟨paa, pca, pba, pda, rfl, rfl, rfl⟩ := shape_P h3
  obtain ⟨pab, pcb, pbb, pdb, rfl, rfl, rfl⟩ := shape_P h4
  obtain ⟨w3, hw, b3, c1, c2, -, -, -⟩ := bx2 w2 [.bool (decide (a.num < 0)), .slice qaa (limbs a.num.natAbs).length qca, .slice qba (dens a.den).length qda, .bool (decide (b.num < 0)), .slice qab (limbs b.num.natAbs).length qcb, .slice qbb (dens b.den).length qdb] [.bool (decide (a.num < 0)), .slice paa (bitsOf a.num.natAbs).length pca, .slice pba (bitsOf a.den).length pda, .bool (decide (b.num < 0)), .slice pab (bitsOf b.num.natAbs).length pcb, .slice pbb (bitsOf b.den).length pdb] 30 35
  have HW := Lib.hid hw
  have CQ2 := Lib.hid c1
  have CP2 := Lib.hid c2
  have RD2 : Hid (RdD w3 (.agg #[.bool (decide (a.num < 0)), .slice qaa (limbs a.num.natAbs).length qca, .slice qba (dens a.den).length qda, .bool (decide (b.num < 0)), .slice qab (limbs b.num.natAbs).length qcb, .slice qbb (dens b.den).length qdb]) a b) := ⟨_, _, _, _, _, _, rfl, h1.ext b3, h2.ext b3⟩
  have RE2 : Hid (RdE w3 (.agg #[.bool (decide (a.num < 0)), .slice paa (bitsOf a.num.natAbs).length pca, .slice pba (bitsOf a.den).length pda, .bool (decide (b.num < 0)), .slice pab (bitsOf b.num.natAbs).length pcb, .slice pbb (bitsOf b.den).length pdb]) a b) := ⟨_, _, _, _, _, _, rfl, h3.ext b3, h4.ext b3⟩
  have RPa := Lib.hid (h3.ext b3)
  have RPb := Lib.hid (h4.ext b3)
  clear hw c1 c2 h1 h2 h3 h4
  go_upto_region 2 with (fail)
  rw [← HW.out]
  clear HW
  generalize Value.slice qaa (limbs a.num.natAbs).length qca = xna at *
  generalize Value.slice qba (dens a.den).length qda = xda at *
  generalize Value.slice qab (limbs b.num.natAbs).length qcb = xnb at *
  generalize Value.slice qbb (dens b.den).length qdb = xdb at *
  generalize Value.slice paa (bitsOf a.num.natAbs).length pca = yna at *
  generalize Value.slice pba (bitsOf a.den).length pda = yda at *
  generalize Value.slice pab (bitsOf b.num.natAbs).length pcb = ynb at *
  generalize Value.slice pbb (bitsOf b.den).length pdb = ydb at *
  generalize Value.bool (decide (a.num < 0)) = xsa at *
  generalize Value.bool (decide (b.num < 0)) = xsb at *
  obtain ⟨k0, k1, k2, k3, k4, k5⟩ := (C2.out.ext (Ext.trans b2 b3)).c6
  go_wp2_with fail
  clear k0 k1 k2 k3 k4 k5
  refine (HB.out _ _ (HV1.out.ext (Ext.trans b1 (Ext.trans b2 b3)))).mono ?_
  rintro e w4 ⟨_, rfl, b4, _, _, rfl, ⟨p0, p1, p2, p3, p4, p5, rfl, h1, h2⟩, ⟨q0, q1, q2, q3, q4, q5, rfl, h3, h4⟩⟩
  obtain ⟨qac, qcc, qbc, qdc, rfl, rfl, rfl⟩ := shape_Q h1
  obtain ⟨qad, qcd, qbd, qdd, rfl, rfl, rfl⟩ := shape_Q h2
  obtain ⟨pac, pcc, pbc, pdc, rfl, rfl, rfl⟩ := shape_P h3
  obtain ⟨pad, pcd, pbd, pdd, rfl, rfl, rfl⟩ := shape_P h4
  obtain ⟨w5, hw, b5, c1, c2, -, -, -⟩ := bx2 w4 [.bool (decide (c.num < 0)), .slice qac (limbs c.num.natAbs).length qcc, .slice qbc (dens c.den).length qdc, .bool (decide (d.num < 0)), .slice qad (limbs d.num.natAbs).length qcd, .slice qbd (dens d.den).length qdd] [.bool (decide (c.num < 0)), .slice pac (bitsOf c.num.natAbs).length pcc, .slice pbc (bitsOf c.den).length pdc, .bool (decide (d.num < 0)), .slice pad (bitsOf d.num.natAbs).length pcd, .slice pbd (bitsOf d.den).length pdd] 30 35
  have HW := Lib.hid hw
  have CQ4 := Lib.hid c1
  have CP4 := Lib.hid c2
  have RD4 : Hid (RdD w5 (.agg #[.bool (decide (c.num < 0)), .slice qac (limbs c.num.natAbs).length qcc, .slice qbc (dens c.den).length qdc, .bool (decide (d.num < 0)), .slice qad (limbs d.num.natAbs).length qcd, .slice qbd (dens d.den).length qdd]) c d) := ⟨_, _, _, _, _, _, rfl, h1.ext b5, h2.ext b5⟩
  have RE4 : Hid (RdE w5 (.agg #[.bool (decide (c.num < 0)), .slice pac (bitsOf c.num.natAbs).length pcc, .slice pbc (bitsOf c.den).length pdc, .bool (decide (d.num < 0)), .slice pad (bitsOf d.num.natAbs).length pcd, .slice pbd (bitsOf d.den).length pdd]) c d) := ⟨_, _, _, _, _, _, rfl, h3.ext b5, h4.ext b5⟩
  have RPc := Lib.hid (h3.ext b5)
  have RPd := Lib.hid (h4.ext b5)
  clear hw c1 c2 h1 h2 h3 h4
  go_upto_region 3 with (fail)
  rw [← HW.out]
  clear HW
  generalize Value.slice qac (limbs c.num.natAbs).length qcc = xnc at *
  generalize Value.slice qbc (dens c.den).length qdc = xdc at *
  generalize Value.slice qad (limbs d.num.natAbs).length qcd = xnd at *
  generalize Value.slice qbd (dens d.den).length qdd = xdd at *
  generalize Value.slice pac (bitsOf c.num.natAbs).length pcc = ync at *
  generalize Value.slice pbc (bitsOf c.den).length pdc = ydc at *
  generalize Value.slice pad (bitsOf d.num.natAbs).length pcd = ynd at *
  generalize Value.slice pbd (bitsOf d.den).length pdd = ydd at *
  generalize Value.bool (decide (c.num < 0)) = xsc at *
  generalize Value.bool (decide (d.num < 0)) = xsd at *
  obtain ⟨k0, k1, k2⟩ := (C3.out.ext (Ext.trans b2 (Ext.trans b3 (Ext.trans b4 b5)))).c3
  go_wp2_with fail
  clear k0 k1 k2
  refine (HN.out _ _ (HV2.out.ext (Ext.trans b1 (Ext.trans b2 (Ext.trans b3 (Ext.trans b4 b5)))))).mono ?_
  rintro e w6 ⟨_, rfl, b6, _, _, rfl, ⟨n9, d9, rfl, on, od⟩, ⟨m9, c9, rfl, om, oc⟩⟩
  obtain ⟨qaf, qcf, rfl, -, -, -, -⟩ := on.rd.1.shape
  obtain ⟨qbf, qdf, rfl, -, -, -, -⟩ := od.rd.1.shape
  obtain ⟨paf, pcf, rfl, -, -, -, -⟩ := om.rd.shape
  obtain ⟨pbf, pdf, rfl, -, -, -, -⟩ := oc.rd.shape
  obtain ⟨w7, hw, b7, c1, c2, -, -, -⟩ := bx2 w6 [.bool (decide (f.num < 0)), .slice qaf (limbs f.num.natAbs).length qcf, .slice qbf (dens f.den).length qdf] [.bool (decide (f.num < 0)), .slice paf (bitsOf f.num.natAbs).length pcf, .slice pbf (bitsOf f.den).length pdf] 28 33
  have HW := Lib.hid hw
  have CQ6 := Lib.hid c1
  have CP6 := Lib.hid c2
  have RQ6 : Hid (RdQ w7 (.agg #[.bool (decide (f.num < 0)), .slice qaf (limbs f.num.natAbs).length qcf, .slice qbf (dens f.den).length qdf]) f) := ⟨_, _, rfl, on.rd.ext b7, od.rd.ext b7⟩
  have RP6 : Hid (RdP w7 (.agg #[.bool (decide (f.num < 0)), .slice paf (bitsOf f.num.natAbs).length pcf, .slice pbf (bitsOf f.den).length pdf]) f) := ⟨_, _, rfl, om.rd.ext b7, oc.rd.ext b7⟩
  clear hw c1 c2 on od om oc
  go_upto_region 4 with (fail)
  rw [← HW.out]
  clear HW
  generalize Value.slice qaf (limbs f.num.natAbs).length qcf = xnf at *
  generalize Value.slice qbf (dens f.den).length qdf = xdf at *
  generalize Value.slice paf (bitsOf f.num.natAbs).length pcf = ynf at *
  generalize Value.slice pbf (bitsOf f.den).length pdf = ydf at *
  generalize Value.bool (decide (f.num < 0)) = xsf at *
  clear C2 C3 HV0 HV1 HV2 HA HB HN
  have D1 := Lib.hid (CQ2.out.ext (Ext.trans b4 (Ext.trans b5 (Ext.trans b6 b7))))
  have D2 := Lib.hid (CP2.out.ext (Ext.trans b4 (Ext.trans b5 (Ext.trans b6 b7))))
  have D3 := Lib.hid (CQ4.out.ext (Ext.trans b6 b7))
  have D4 := Lib.hid (CP4.out.ext (Ext.trans b6 b7))
  clear CQ2 CP2 CQ4 CP4
  have HSB1 : Hid (∀ {w v}, RdP w v (a + -c) → RdP w v (a - c)) := fun h => by rw [Rat.sub_eq_add_neg]; exact h
  have HSB2 : Hid (∀ {w v}, RdP w v (b + -d) → RdP w v (b - d)) := fun h => by rw [Rat.sub_eq_add_neg]; exact h
  have HI0 : Hid (∀ w, Calls Try.prog 27 #[.int .i64 0] w (Gives w fun v' w' => OwnP 4 w.heap.size w' v' 0)) := fun w => by have := @r5int_any w 0 (by omega); rw [Rat.intCast_zero] at this; exact this
  simp only [List.append_eq, List.cons_append, List.nil_append]
  have b8 := drew_ext w7
  have XE := b8
  go_region_held3 (fun w' => (w'.cell? ⟨w2.heap.size, 0, none⟩ = some (xsa) ∧ w'.cell? ⟨w2.heap.size, 1, none⟩ = some (xna) ∧ w'.cell? ⟨w2.heap.size, 2, none⟩ = some (xda) ∧ w'.cell? ⟨w2.heap.size, 3, none⟩ = some (xsb) ∧ w'.cell? ⟨w2.heap.size, 4, none⟩ = some (xnb) ∧ w'.cell? ⟨w2.heap.size, 5, none⟩ = some (xdb)) ∧ (w'.cell? ⟨w2.heap.size + 1, 0, none⟩ = some (xsa) ∧ w'.cell? ⟨w2.heap.size + 1, 1, none⟩ = some (yna) ∧ w'.cell? ⟨w2.heap.size + 1, 2, none⟩ = some (yda) ∧ w'.cell? ⟨w2.heap.size + 1, 3, none⟩ = some (xsb) ∧ w'.cell? ⟨w2.heap.size + 1, 4, none⟩ = some (ynb) ∧ w'.cell? ⟨w2.heap.size + 1, 5, none⟩ = some (ydb)) ∧ (w'.cell? ⟨w4.heap.size, 0, none⟩ = some (xsc) ∧ w'.cell? ⟨w4.heap.size, 1, none⟩ = some (xnc) ∧ w'.cell? ⟨w4.heap.size, 2, none⟩ = some (xdc) ∧ w'.cell? ⟨w4.heap.size, 3, none⟩ = some (xsd) ∧ w'.cell? ⟨w4.heap.size, 4, none⟩ = some (xnd) ∧ w'.cell? ⟨w4.heap.size, 5, none⟩ = some (xdd)) ∧ (w'.cell? ⟨w4.heap.size + 1, 0, none⟩ = some (xsc) ∧ w'.cell? ⟨w4.heap.size + 1, 1, none⟩ = some (ync) ∧ w'.cell? ⟨w4.heap.size + 1, 2, none⟩ = some (ydc) ∧ w'.cell? ⟨w4.heap.size + 1, 3, none⟩ = some (xsd) ∧ w'.cell? ⟨w4.heap.size + 1, 4, none⟩ = some (ynd) ∧ w'.cell? ⟨w4.heap.size + 1, 5, none⟩ = some (ydd)) ∧ (w'.cell? ⟨w6.heap.size, 0, none⟩ = some (xsf) ∧ w'.cell? ⟨w6.heap.size, 1, none⟩ = some (xnf) ∧ w'.cell? ⟨w6.heap.size, 2, none⟩ = some (xdf)) ∧ (w'.cell? ⟨w6.heap.size + 1, 0, none⟩ = some (xsf) ∧ w'.cell? ⟨w6.heap.size + 1, 1, none⟩ = some (ynf) ∧ w'.cell? ⟨w6.heap.size + 1, 2, none⟩ = some (ydf))) (exact ⟨(D1.out.ext XE).c6, (D2.out.ext XE).c6, (D3.out.ext XE).c6, (D4.out.ext XE).c6, (CQ6.out.ext XE).c3, (CP6.out.ext XE).c3⟩)
    (first
     | (go_at_call 28; refine (is_yes (O31.out.rd.ext b32) O32.out.rd ((SA.out.add (SB.out.mul SE.out)).le (by decide))).mono ?_; rintro e w33 ⟨_, rfl, b33, rfl⟩; (first | have XE := Ext.trans XE b33 | have XE := Ext.trans (Ext.trans XE (Ext.alloc _ _)) b33))
     | (go_at_call 30; refine (r7at_any (RE2.out.ext (Ext.trans b4 (Ext.trans b5 (Ext.trans b6 (Ext.trans b7 (Ext.trans b8 (Ext.trans b9 (Ext.trans b10 (Ext.trans b11 (Ext.trans b12 (Ext.trans b13 (Ext.trans b14 (Ext.trans b15 (Ext.trans b16 (Ext.trans b17 (Ext.trans b18 (Ext.trans b19 (Ext.trans b20 (Ext.trans b21 (Ext.trans b22 (Ext.trans b23 (Ext.trans b24 (Ext.trans b25 (Ext.trans b26 (Ext.trans b27 (Ext.trans b28 (Ext.trans b29 (Ext.trans b30 b31)))))))))))))))))))))))))))) (RP6.out.ext (Ext.trans b8 (Ext.trans b9 (Ext.trans b10 (Ext.trans b11 (Ext.trans b12 (Ext.trans b13 (Ext.trans b14 (Ext.trans b15 (Ext.trans b16 (Ext.trans b17 (Ext.trans b18 (Ext.trans b19 (Ext.trans b20 (Ext.trans b21 (Ext.trans b22 (Ext.trans b23 (Ext.trans b24 (Ext.trans b25 (Ext.trans b26 (Ext.trans b27 (Ext.trans b28 (Ext.trans b29 (Ext.trans b30 b31)))))))))))))))))))))))) (SA.out.bits.le (by decide)) (SB.out.bits.le (by decide)) (SE.out.bits.le (by decide)) ((SB.out.mul SE.out).bits.le (by decide))).mono ?_; rintro e w32 ⟨v32, rfl, b32, o32⟩; have O32 := Lib.hid o32; clear o32; (first | have XE := Ext.trans XE b32 | have XE := Ext.trans (Ext.trans XE (Ext.alloc _ _)) b32))
     | (go_at_call 29; refine (dat_any (RD2.out.ext (Ext.trans b4 (Ext.trans b5 (Ext.trans b6 (Ext.trans b7 (Ext.trans b8 (Ext.trans b9 (Ext.trans b10 (Ext.trans b11 (Ext.trans b12 (Ext.trans b13 (Ext.trans b14 (Ext.trans b15 (Ext.trans b16 (Ext.trans b17 (Ext.trans b18 (Ext.trans b19 (Ext.trans b20 (Ext.trans b21 (Ext.trans b22 (Ext.trans b23 (Ext.trans b24 (Ext.trans b25 (Ext.trans b26 (Ext.trans b27 (Ext.trans b28 (Ext.trans b29 b30))))))))))))))))))))))))))) (RQ6.out.ext (Ext.trans b8 (Ext.trans b9 (Ext.trans b10 (Ext.trans b11 (Ext.trans b12 (Ext.trans b13 (Ext.trans b14 (Ext.trans b15 (Ext.trans b16 (Ext.trans b17 (Ext.trans b18 (Ext.trans b19 (Ext.trans b20 (Ext.trans b21 (Ext.trans b22 (Ext.trans b23 (Ext.trans b24 (Ext.trans b25 (Ext.trans b26 (Ext.trans b27 (Ext.trans b28 (Ext.trans b29 b30))))))))))))))))))))))) (SA.out.le (by decide)) (SB.out.le (by decide)) (SE.out.le (by decide))).mono ?_; rintro e w31 ⟨v31, rfl, b31, o31⟩; have O31 := Lib.hid o31; clear o31; (first | have XE := Ext.trans XE b31 | have XE := Ext.trans (Ext.trans XE (Ext.alloc _ _)) b31))
     | (go_at_call 18; refine (is7_yes (O28.out.ext b29) (RP6.out.ext (Ext.trans b8 (Ext.trans b9 (Ext.trans b10 (Ext.trans b11 (Ext.trans b12 (Ext.trans b13 (Ext.trans b14 (Ext.trans b15 (Ext.trans b16 (Ext.trans b17 (Ext.trans b18 (Ext.trans b19 (Ext.trans b20 (Ext.trans b21 (Ext.trans b22 (Ext.trans b23 (Ext.trans b24 (Ext.trans b25 (Ext.trans b26 (Ext.trans b27 (Ext.trans b28 b29)))))))))))))))))))))) O29.out.rd (SE.out.le (by decide)) (Sz.zero.le (by decide))).mono ?_; rintro e w30 ⟨_, rfl, b30, rfl⟩; (first | have XE := Ext.trans XE b30 | have XE := Ext.trans (Ext.trans XE (Ext.alloc _ _)) b30))
     | (go_at_call 27; refine (HI0.out _).mono ?_; rintro e w29 ⟨v29, rfl, b29, o29⟩; have O29 := Lib.hid o29; clear o29; (first | have XE := Ext.trans XE b29 | have XE := Ext.trans (Ext.trans XE (Ext.alloc _ _)) b29))
     | (go_at_call 26; refine (dof_any (RQ6.out.ext (Ext.trans b8 (Ext.trans b9 (Ext.trans b10 (Ext.trans b11 (Ext.trans b12 (Ext.trans b13 (Ext.trans b14 (Ext.trans b15 (Ext.trans b16 (Ext.trans b17 (Ext.trans b18 (Ext.trans b19 (Ext.trans b20 (Ext.trans b21 (Ext.trans b22 (Ext.trans b23 (Ext.trans b24 (Ext.trans b25 (Ext.trans b26 b27))))))))))))))))))))).mono ?_; rintro e w28 ⟨v28, rfl, b28, o28⟩; have O28 := Lib.hid o28; clear o28; (first | have XE := Ext.trans XE b28 | have XE := Ext.trans (Ext.trans XE (Ext.alloc _ _)) b28))
     | (go_at_call 18; refine (is7_yes (O24.out.rd.ext (Ext.trans b25 b26)) (O25.out.rd.ext b26) O26.out.rd ((SE.out.mul SA.out).le (by decide)) ((SE.out.mul SB.out).le (by decide))).mono ?_; rintro e w27 ⟨_, rfl, b27, rfl⟩; (first | have XE := Ext.trans XE b27 | have XE := Ext.trans (Ext.trans XE (Ext.alloc _ _)) b27))
     | (go_at_call 25; refine (r5mul_any (RP6.out.ext (Ext.trans b8 (Ext.trans b9 (Ext.trans b10 (Ext.trans b11 (Ext.trans b12 (Ext.trans b13 (Ext.trans b14 (Ext.trans b15 (Ext.trans b16 (Ext.trans b17 (Ext.trans b18 (Ext.trans b19 (Ext.trans b20 (Ext.trans b21 (Ext.trans b22 (Ext.trans b23 (Ext.trans b24 b25)))))))))))))))))) (RPb.out.ext (Ext.trans b4 (Ext.trans b5 (Ext.trans b6 (Ext.trans b7 (Ext.trans b8 (Ext.trans b9 (Ext.trans b10 (Ext.trans b11 (Ext.trans b12 (Ext.trans b13 (Ext.trans b14 (Ext.trans b15 (Ext.trans b16 (Ext.trans b17 (Ext.trans b18 (Ext.trans b19 (Ext.trans b20 (Ext.trans b21 (Ext.trans b22 (Ext.trans b23 (Ext.trans b24 b25)))))))))))))))))))))) (SE.out.bits.le (by decide)) (SB.out.bits.le (by decide))).mono ?_; rintro e w26 ⟨v26, rfl, b26, o26⟩; have O26 := Lib.hid o26; clear o26; (first | have XE := Ext.trans XE b26 | have XE := Ext.trans (Ext.trans XE (Ext.alloc _ _)) b26))
     | (go_at_call 25; refine (r5mul_any (RP6.out.ext (Ext.trans b8 (Ext.trans b9 (Ext.trans b10 (Ext.trans b11 (Ext.trans b12 (Ext.trans b13 (Ext.trans b14 (Ext.trans b15 (Ext.trans b16 (Ext.trans b17 (Ext.trans b18 (Ext.trans b19 (Ext.trans b20 (Ext.trans b21 (Ext.trans b22 (Ext.trans b23 b24))))))))))))))))) (RPa.out.ext (Ext.trans b4 (Ext.trans b5 (Ext.trans b6 (Ext.trans b7 (Ext.trans b8 (Ext.trans b9 (Ext.trans b10 (Ext.trans b11 (Ext.trans b12 (Ext.trans b13 (Ext.trans b14 (Ext.trans b15 (Ext.trans b16 (Ext.trans b17 (Ext.trans b18 (Ext.trans b19 (Ext.trans b20 (Ext.trans b21 (Ext.trans b22 (Ext.trans b23 b24))))))))))))))))))))) (SE.out.bits.le (by decide)) (SA.out.bits.le (by decide))).mono ?_; rintro e w25 ⟨v25, rfl, b25, o25⟩; have O25 := Lib.hid o25; clear o25; (first | have XE := Ext.trans XE b25 | have XE := Ext.trans (Ext.trans XE (Ext.alloc _ _)) b25))
     | (go_at_call 24; refine (dscale_any (RQ6.out.ext (Ext.trans b8 (Ext.trans b9 (Ext.trans b10 (Ext.trans b11 (Ext.trans b12 (Ext.trans b13 (Ext.trans b14 (Ext.trans b15 (Ext.trans b16 (Ext.trans b17 (Ext.trans b18 (Ext.trans b19 (Ext.trans b20 (Ext.trans b21 (Ext.trans b22 b23)))))))))))))))) (RD2.out.ext (Ext.trans b4 (Ext.trans b5 (Ext.trans b6 (Ext.trans b7 (Ext.trans b8 (Ext.trans b9 (Ext.trans b10 (Ext.trans b11 (Ext.trans b12 (Ext.trans b13 (Ext.trans b14 (Ext.trans b15 (Ext.trans b16 (Ext.trans b17 (Ext.trans b18 (Ext.trans b19 (Ext.trans b20 (Ext.trans b21 (Ext.trans b22 b23)))))))))))))))))))) (SE.out.le (by decide)) (SA.out.le (by decide)) (SB.out.le (by decide))).mono ?_; rintro e w24 ⟨v24, rfl, b24, o24⟩; have O24 := Lib.hid o24; clear o24; (first | have XE := Ext.trans XE b24 | have XE := Ext.trans (Ext.trans XE (Ext.alloc _ _)) b24))
     | (go_at_call 18; refine (is7_yes (O20.out.ext (Ext.trans b21 b22)) (O21.out.ext b22) O22.out (SA.out.neg.le (by decide)) (SB.out.neg.le (by decide))).mono ?_; rintro e w23 ⟨_, rfl, b23, rfl⟩; (first | have XE := Ext.trans XE b23 | have XE := Ext.trans (Ext.trans XE (Ext.alloc _ _)) b23))
     | (go_at_call 22; refine (r5neg_any (RPb.out.ext (Ext.trans b4 (Ext.trans b5 (Ext.trans b6 (Ext.trans b7 (Ext.trans b8 (Ext.trans b9 (Ext.trans b10 (Ext.trans b11 (Ext.trans b12 (Ext.trans b13 (Ext.trans b14 (Ext.trans b15 (Ext.trans b16 (Ext.trans b17 (Ext.trans b18 (Ext.trans b19 (Ext.trans b20 b21))))))))))))))))))).mono ?_; rintro e w22 ⟨v22, rfl, b22, o22⟩; have O22 := Lib.hid o22; clear o22; (first | have XE := Ext.trans XE b22 | have XE := Ext.trans (Ext.trans XE (Ext.alloc _ _)) b22))
     | (go_at_call 22; refine (r5neg_any (RPa.out.ext (Ext.trans b4 (Ext.trans b5 (Ext.trans b6 (Ext.trans b7 (Ext.trans b8 (Ext.trans b9 (Ext.trans b10 (Ext.trans b11 (Ext.trans b12 (Ext.trans b13 (Ext.trans b14 (Ext.trans b15 (Ext.trans b16 (Ext.trans b17 (Ext.trans b18 (Ext.trans b19 b20)))))))))))))))))).mono ?_; rintro e w21 ⟨v21, rfl, b21, o21⟩; have O21 := Lib.hid o21; clear o21; (first | have XE := Ext.trans XE b21 | have XE := Ext.trans (Ext.trans XE (Ext.alloc _ _)) b21))
     | (go_at_call 23; refine (dneg_any (RD2.out.ext (Ext.trans b4 (Ext.trans b5 (Ext.trans b6 (Ext.trans b7 (Ext.trans b8 (Ext.trans b9 (Ext.trans b10 (Ext.trans b11 (Ext.trans b12 (Ext.trans b13 (Ext.trans b14 (Ext.trans b15 (Ext.trans b16 (Ext.trans b17 (Ext.trans b18 b19))))))))))))))))).mono ?_; rintro e w20 ⟨v20, rfl, b20, o20⟩; have O20 := Lib.hid o20; clear o20; (first | have XE := Ext.trans XE b20 | have XE := Ext.trans (Ext.trans XE (Ext.alloc _ _)) b20))
     | (go_at_call 18; refine (is7_yes (O14.out.rd.ext (Ext.trans b15 (Ext.trans b16 (Ext.trans b17 b18)))) (HSB1.out (O16.out.rd.ext (Ext.trans b17 b18))) (HSB2.out O18.out.rd) ((SA.out.sub SC.out).le (by decide)) ((SB.out.sub SD.out).le (by decide))).mono ?_; rintro e w19 ⟨_, rfl, b19, rfl⟩; (first | have XE := Ext.trans XE b19 | have XE := Ext.trans (Ext.trans XE (Ext.alloc _ _)) b19))
     | (go_at_call 20; refine (r5add_any (RPb.out.ext (Ext.trans b4 (Ext.trans b5 (Ext.trans b6 (Ext.trans b7 (Ext.trans b8 (Ext.trans b9 (Ext.trans b10 (Ext.trans b11 (Ext.trans b12 (Ext.trans b13 (Ext.trans b14 (Ext.trans b15 (Ext.trans b16 b17)))))))))))))) O17.out (SB.out.bits.le (by decide)) (Sb.neg (SD.out.bits.le (by decide)))).mono ?_; rintro e w18 ⟨v18, rfl, b18, o18⟩; have O18 := Lib.hid o18; clear o18; (first | have XE := Ext.trans XE b18 | have XE := Ext.trans (Ext.trans XE (Ext.alloc _ _)) b18))
     | (go_at_call 22; refine (r5neg_any (RPd.out.ext (Ext.trans b6 (Ext.trans b7 (Ext.trans b8 (Ext.trans b9 (Ext.trans b10 (Ext.trans b11 (Ext.trans b12 (Ext.trans b13 (Ext.trans b14 (Ext.trans b15 b16)))))))))))).mono ?_; rintro e w17 ⟨v17, rfl, b17, o17⟩; have O17 := Lib.hid o17; clear o17; (first | have XE := Ext.trans XE b17 | have XE := Ext.trans (Ext.trans XE (Ext.alloc _ _)) b17))
     | (go_at_call 20; refine (r5add_any (RPa.out.ext (Ext.trans b4 (Ext.trans b5 (Ext.trans b6 (Ext.trans b7 (Ext.trans b8 (Ext.trans b9 (Ext.trans b10 (Ext.trans b11 (Ext.trans b12 (Ext.trans b13 (Ext.trans b14 b15)))))))))))) O15.out (SA.out.bits.le (by decide)) (Sb.neg (SC.out.bits.le (by decide)))).mono ?_; rintro e w16 ⟨v16, rfl, b16, o16⟩; have O16 := Lib.hid o16; clear o16; (first | have XE := Ext.trans XE b16 | have XE := Ext.trans (Ext.trans XE (Ext.alloc _ _)) b16))
     | (go_at_call 22; refine (r5neg_any (RPc.out.ext (Ext.trans b6 (Ext.trans b7 (Ext.trans b8 (Ext.trans b9 (Ext.trans b10 (Ext.trans b11 (Ext.trans b12 (Ext.trans b13 b14)))))))))).mono ?_; rintro e w15 ⟨v15, rfl, b15, o15⟩; have O15 := Lib.hid o15; clear o15; (first | have XE := Ext.trans XE b15 | have XE := Ext.trans (Ext.trans XE (Ext.alloc _ _)) b15))
     | (go_at_call 21; refine (dsub_any (RD2.out.ext (Ext.trans b4 (Ext.trans b5 (Ext.trans b6 (Ext.trans b7 (Ext.trans b8 (Ext.trans b9 (Ext.trans b10 (Ext.trans b11 (Ext.trans b12 b13)))))))))) (RD4.out.ext (Ext.trans b6 (Ext.trans b7 (Ext.trans b8 (Ext.trans b9 (Ext.trans b10 (Ext.trans b11 (Ext.trans b12 b13)))))))) (SA.out.le (by decide)) (SB.out.le (by decide)) (SC.out.le (by decide)) (SD.out.le (by decide))).mono ?_; rintro e w14 ⟨v14, rfl, b14, o14⟩; have O14 := Lib.hid o14; clear o14; (first | have XE := Ext.trans XE b14 | have XE := Ext.trans (Ext.trans XE (Ext.alloc _ _)) b14))
     | (go_at_call 18; refine (is7_yes (O10.out.rd.ext (Ext.trans b11 b12)) (O11.out.rd.ext b12) O12.out.rd ((SA.out.add SC.out).le (by decide)) ((SB.out.add SD.out).le (by decide))).mono ?_; rintro e w13 ⟨_, rfl, b13, rfl⟩; (first | have XE := Ext.trans XE b13 | have XE := Ext.trans (Ext.trans XE (Ext.alloc _ _)) b13))
     | (go_at_call 20; refine (r5add_any (RPb.out.ext (Ext.trans b4 (Ext.trans b5 (Ext.trans b6 (Ext.trans b7 (Ext.trans b8 (Ext.trans b9 (Ext.trans b10 b11)))))))) (RPd.out.ext (Ext.trans b6 (Ext.trans b7 (Ext.trans b8 (Ext.trans b9 (Ext.trans b10 b11)))))) (SB.out.bits.le (by decide)) (SD.out.bits.le (by decide))).mono ?_; rintro e w12 ⟨v12, rfl, b12, o12⟩; have O12 := Lib.hid o12; clear o12; (first | have XE := Ext.trans XE b12 | have XE := Ext.trans (Ext.trans XE (Ext.alloc _ _)) b12))
     | (go_at_call 20; refine (r5add_any (RPa.out.ext (Ext.trans b4 (Ext.trans b5 (Ext.trans b6 (Ext.trans b7 (Ext.trans b8 (Ext.trans b9 b10))))))) (RPc.out.ext (Ext.trans b6 (Ext.trans b7 (Ext.trans b8 (Ext.trans b9 b10))))) (SA.out.bits.le (by decide)) (SC.out.bits.le (by decide))).mono ?_; rintro e w11 ⟨v11, rfl, b11, o11⟩; have O11 := Lib.hid o11; clear o11; (first | have XE := Ext.trans XE b11 | have XE := Ext.trans (Ext.trans XE (Ext.alloc _ _)) b11))
     | (go_at_call 19; refine (dadd_any (RD2.out.ext (Ext.trans b4 (Ext.trans b5 (Ext.trans b6 (Ext.trans b7 (Ext.trans b8 b9)))))) (RD4.out.ext (Ext.trans b6 (Ext.trans b7 (Ext.trans b8 b9)))) (SA.out.le (by decide)) (SB.out.le (by decide)) (SC.out.le (by decide)) (SD.out.le (by decide))).mono ?_; rintro e w10 ⟨v10, rfl, b10, o10⟩; have O10 := Lib.hid o10; clear o10; (first | have XE := Ext.trans XE b10 | have XE := Ext.trans (Ext.trans XE (Ext.alloc _ _)) b10))
     | (go_at_call 17; refine (awake07).mono ?_; rintro e w9 ⟨_, rfl, b9, rfl⟩; (first | have XE := Ext.trans XE b9 | have XE := Ext.trans (Ext.trans XE (Ext.alloc _ _)) b9)))
  go_wp2_with fail
  exact hR.out _ _ (Gives.mk (Ext.trans b1 (Ext.trans b2 (Ext.trans b3 (Ext.trans b4 (Ext.trans b5 (Ext.trans b6 (Ext.trans b7 (Ext.trans b8 (Ext.trans b9 (Ext.trans b10 (Ext.trans b11 (Ext.trans b12 (Ext.trans b13 (Ext.trans b14 (Ext.trans b15 (Ext.trans b16 (Ext.trans b17 (Ext.trans b18 (Ext.trans b19 (Ext.trans b20 (Ext.trans b21 (Ext.trans b22 (Ext.trans b23 (Ext.trans b24 (Ext.trans b25 (Ext.trans b26 (Ext.trans b27 (Ext.trans b28 (Ext.trans b29 (Ext.trans b30 (Ext.trans b31 (Ext.trans b32 b33)))))))))))))))))))))))))))))))) rfl)
theorem own : ownKnob Try.prog.godebug = none := by kernel_rfl
theorem laidOut : laidOutB Try.prog = true := by kernel_rfl

set_option maxRecDepth 100000 in
theorem contract (H : Type) (enc : TypeId × Value → H) (W : World) (base : Nat) (args : Array Value) (ds gs : List (DataW H)) (before : List MemPlace)
    (hval : ∀ (j : Nat) t v, Try.f3.params[j]? = some t → args[j]? = some v → Value.okWide Try.prog W .any base t v)
    (hW : DataW.Whole enc Try.prog Try.f3.params.toList Rows.deltaSumsSpec.vars false W args.toList ds gs before) (hk : Rows.uptoSmall H (ds ++ gs) = true) :
    Calls Try.prog 3 args W fun e W' => ∃ v, e = .returned v ∧ Rows.deltaSumsSpec.post enc Try.prog Try.f3 false true false false W args v W' := by
  have hW' := hW
  obtain ⟨p, q, hA0, hV, rfl, hfz, hnd⟩ := hW
  have hA : DataW.TrodAll enc Try.prog W 0 (fun _ => true) true Try.f3.params.toList args.toList ds p := hA0
  rw [Try.params3] at hA hval
  obtain ⟨v0, vs0, d0, ds0, p0, q0, hargs, rfl, rfl, h0, r0⟩ := trodAll_cons hA
  obtain ⟨v1, vs1, d1, ds1, p1, q1, rfl, rfl, rfl, h1, r1⟩ := trodAll_cons r0
  obtain ⟨v2, vs2, d2, ds2, p2, q2, rfl, rfl, rfl, h2, r2⟩ := trodAll_cons r1
  obtain ⟨rfl, rfl, rfl⟩ := trodAll_nil r2
  obtain rfl : args = #[v0, v1, v2] := by cases args; simp_all
  obtain ⟨rfl, rfl⟩ := trodVars_none hV
  have hb := bulk_small hk
  simp only [List.append_nil, bulk_cons, bulk_nil] at hb
  have k0 := h0
  have lt0 : ∀ x ∈ p0, x.block < W.heap.size := by obtain ⟨m, hm⟩ := k0; exact DataW.trod_lt m _ _ _ hm
  obtain ⟨s0, x0, y0, s0', x0', y0', rd0, len0⟩ := open_two Try.underlying26 rfl rfl rfl rfl (by kernel_rfl) (hval 0 26 v0 rfl rfl) h0
  have k1 := h1
  have lt1 : ∀ x ∈ p1, x.block < W.heap.size := by obtain ⟨m, hm⟩ := k1; exact DataW.trod_lt m _ _ _ hm
  obtain ⟨s1, x1, y1, s1', x1', y1', rd1, len1⟩ := open_two Try.underlying26 rfl rfl rfl rfl (by kernel_rfl) (hval 1 26 v1 rfl rfl) h1
  have k2 := h2
  have lt2 : ∀ x ∈ p2, x.block < W.heap.size := by obtain ⟨m, hm⟩ := k2; exact DataW.trod_lt m _ _ _ hm
  obtain ⟨s2, x2, y2, rd2, len2⟩ := open_N (hval 2 24 v2 rfl rfl) h2
  clear hA0
  refine (walk rd0 (by omega) (by omega) (by omega) (by omega) rd1 (by omega) (by omega) (by omega) (by omega) rd2 (by omega) (by omega)).mono fun e W' ⟨v, he, bel, hv⟩ => ?_
  subst he hv
  exact ⟨_, rfl, _, _, _, [], _, [], hW', trodAll_mk1 (shut_bool Try.underlying4 _), (trodAll_cons_mk (Below.trod laidOut (by kernel_rfl) (of_decide_eq_true (by kernel_rfl)) k0 bel lt0) (trodAll_cons_mk (Below.trod laidOut (by kernel_rfl) (of_decide_eq_true (by kernel_rfl)) k1 bel lt1) (trodAll_cons_mk (Below.trod laidOut (by kernel_rfl) (of_decide_eq_true (by kernel_rfl)) k2 bel lt2) trodAll_mk0))), rfl, bel.frame _, fun h => by cases h⟩

set_option maxRecDepth 100000 in
theorem lifted (os : Os) (started : os.Started) (H : Type) (enc : TypeId × Value → H) (F : Stop.Interp) :
    ReturnsInHanded {} Try.checked os 3 .any ((Rows.OpenSpec.upto Rows.deltaSumsSpec).pre6 enc Try.prog Try.f3 Rows.deltaSumsUptoRow.domain false) (((Rows.OpenSpec.upto Rows.deltaSumsSpec).at F).post enc Try.prog Try.f3 false true false false) := by
  refine returnsInHanded_of_cond (C := Try.checked) (s := Rows.OpenSpec.upto Rows.deltaSumsSpec) (k := Rows.uptoSmall) rfl own started (by kernel_rfl) Try.func3
    (OpenSpec.witness (enc := enc) (C := Try.checked) (s := Rows.OpenSpec.upto Rows.deltaSumsSpec) (k := Rows.uptoSmall) rfl false ⟨#[], #[.agg #[.bool false, .slice none 0 0, .slice none 0 0, .bool false, .slice none 0 0, .slice none 0 0], .agg #[.bool false, .slice none 0 0, .slice none 0 0, .bool false, .slice none 0 0, .slice none 0 0], .agg #[.bool false, .slice none 0 0, .slice none 0 0]], []⟩ 8 (by kernel_rfl) (by kernel_rfl) (by kernel_rfl)
      (x := ([.agg [.agg [.lit (.bool false), .nil, .nil], .agg [.lit (.bool false), .nil, .nil]], .agg [.agg [.lit (.bool false), .nil, .nil], .agg [.lit (.bool false), .nil, .nil]], .agg [.lit (.bool false), .nil, .nil]], [], [])) (by kernel_rfl) rfl (by kernel_rfl)) ?_
  intro W base args ds gs before hval hW _ hk _
  exact contract H enc W base args ds gs before hval hW hk

theorem proved : Rows.DeltaSumsUptoSaid :=
  OpenClaim.holds_of_cond 3 Try.f3 rfl rfl rfl rfl rfl rfl rfl ⟨rfl, rfl, rfl, rfl, rfl⟩ rfl rfl rfl rfl rfl (by kernel_rfl) Try.func3 (by kernel_rfl)
    (of_decide_eq_true (by kernel_rfl)) (by unfold Func.isWrapper; first | (rw [if_pos (by decide +kernel)]; kernel_rfl) | (rw [if_neg (by decide +kernel)]; exact ⟨rfl, rfl⟩))
    (fun os started H enc _ F => lifted os started H enc F)
#print axioms proved

end Go.Proofs.Ytpeeacdnjbcmiaa.deltaSums
