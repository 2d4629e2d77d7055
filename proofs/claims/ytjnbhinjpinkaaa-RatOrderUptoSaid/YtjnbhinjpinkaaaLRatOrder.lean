/- RatOrder: order, lesser and greater one, whole numbers and floors are right. Conditions: the arguments hold together at most 1048576 values (the second form, Upto). -/
import Derived.Test.YtjnbhinjpinkaaaFrameN
import Derived.Test.YtjnbhinjpinkaaaPBoth05
import Derived.Test.YtjnbhinjpinkaaaPAwake05
import Derived.Test.YtjnbhinjpinkaaaPIs05
import Derived.Test.YtjnbhinjpinkaaaPRatMin
import Derived.Test.YtjnbhinjpinkaaaPRatWhole
import Derived.Test.YtjnbhinjpinkaaaPRatFloor
import Derived.Test.YtjnbhinjpinkaaaPRef5Cmp
import Derived.Test.YtjnbhinjpinkaaaPRef5Floor
namespace Go.Proofs.Ytjnbhinjpinkaaa.ratOrder
open Go.ChangeShapes Go.WideShapes Go.ChangeAt Go.RowKit Go.Att

theorem box2RR (w : World) (x y z x' y' z' : Value) (t : TypeId) : ∃ W, W = (w.alloc (.cells #[x, y, z] t)).alloc (.cells #[x', y', z'] t) ∧ Ext w W ∧ Box3 W w.heap.size x y z ∧ Box3 W (w.heap.size + 1) x' y' z' ∧ Room3 W w.heap.size ∧ Room3 W (w.heap.size + 1) := by
  obtain ⟨W, hW, e, b, r, s⟩ := box1 w x y z t
  obtain ⟨V, hV, e', b', r', s'⟩ := box1 W x' y' z' t
  exact ⟨V, by rw [hV, hW], e.trans e', b.ext e', by rw [← s]; exact b', r.ext e', by rw [← s]; exact r'⟩
theorem put3_row {w : World} {c : Nat} {x' y' z' : Value} {t : TypeId} (h : w.heap[c]? = some (.cells #[x', y', z'] t (0, 0))) (x y z : Value) : (put3 w c x y z).heap[c]? = some (.cells #[x, y, z] t (0, 0)) := by
  have h0 := heap_setCell_same w c 0 _ t x h
  have h1 := heap_setCell_same _ c 1 _ t y h0
  have h2 := heap_setCell_same _ c 2 _ t z h1
  unfold put3
  rw [h2]
  simp
/-- Two new blocks hold p and q. -/
def Two (w0 w : World) (B C : Nat) (x y z x' y' z' : Value) : Prop := Ext w0 w ∧ B ≠ C ∧ w0.heap.size ≤ B ∧ w0.heap.size ≤ C ∧ Box3 w B x y z ∧ Box3 w C x' y' z' ∧ Room3 w B ∧ Room3 w C
theorem Two.fst (w : World) (x y z x' y' z' : Value) (t : TypeId) : Two w ((w.drew.alloc (.cells #[x, y, z] t)).alloc (.cells #[x', y', z'] t)) w.heap.size (w.heap.size + 1) x y z x' y' z' := by
  obtain ⟨W, hW, e, c1, c2, r1, r2⟩ := box2RR w.drew x y z x' y' z' t
  rw [← hW]
  exact ⟨Ext.trans (drew_ext w) e, by omega, Nat.le_refl _, by omega, c1, c2, r1, r2⟩
theorem Two.swap {w0 w : World} {B C : Nat} {x y z x' y' z' : Value} (h : Two w0 w B C x y z x' y' z') : Two w0 w C B x' y' z' x y z := by
  obtain ⟨a, b, c, d, e, f, g, k⟩ := h
  exact ⟨a, Ne.symm b, d, c, f, e, k, g⟩
theorem Two.put {w0 w : World} {B C : Nat} {x y z x' y' z' : Value} (h : Two w0 w B C x y z x' y' z') (a b c a' b' c' : Value) : Two w0 (put3 (put3 w B a b c) C a' b' c').drew B C a b c a' b' c' := by
  obtain ⟨h1, h2, h3, h4, h5, h6, r1, r2⟩ := h
  refine ⟨Ext.trans (put3_below (put3_below h1 h3 _ _ _) h4 _ _ _) (drew_ext _), h2, h3, h4, ((Box3.put_at r1 a b c).put h2 _ _ _).drew, (Box3.put_at (r2.put (Ne.symm h2) _ _ _) _ _ _).drew, ?_, ?_⟩
  · obtain ⟨_, _, _, t, h⟩ := r1
    exact Room3.ext ⟨a, b, c, t, by rw [put3_block _ _ _ _ _ _ h2]; exact put3_row h _ _ _⟩ (drew_ext _)
  · obtain ⟨_, _, _, t, h⟩ := r2.put (Ne.symm h2) a b c
    exact Room3.ext ⟨a', b', c', t, put3_row h _ _ _⟩ (drew_ext _)

theorem floor_sz {L : Nat} {q : Rat} (h : Sz L q) : Sz (L + 1) (floorQ q) :=
  ⟨by unfold floorQ; rw [Rat.num_intCast]; exact Nat.le_trans (limbs_mono (Int.natAbs_ediv_le_natAbs _ _)) (Nat.le_succ_of_le h.1), Nat.le_trans limbs_one_len (by omega)⟩
theorem rcmp_to {w : World} {va vb : Value} {p q : Rat} {t : Int} (hp : RdQ w va p) (hq : RdQ w vb q) (sp : Sz 10000000 p) (sq : Sz 10000000 q) (h : (p - q).num.sign = t) :
    Calls Try.prog 34 #[va, vb] w (Gives w fun v' _ => v' = .int .i64 t) := h ▸ rcmp_any hp hq sp sq
theorem r5cmp_to {w : World} {va vb : Value} {p q : Rat} {t : Int} (hp : RdP w va p) (hq : RdP w vb q) (sp : Sb 50000 p) (sq : Sb 50000 q) (h : (p - q).num.sign = t) :
    Calls Try.prog 47 #[va, vb] w (Gives w fun v' _ => v' = .int .i64 t) := h ▸ r5cmp_any hp hq sp sq
theorem whole_to {w : World} {v : Value} {q : Rat} {wh : Bool} (hq : RdQ w v q) (h : decide (q.den = 1) = wh) :
    Calls Try.prog 50 #[v] w (Gives w fun v' _ => v' = .bool wh) := h ▸ whole_any hq


set_option maxHeartbeats 8000000 in
set_option maxRecDepth 100000 in
set_option linter.unusedSimpArgs false in
theorem walkA {w : World} {v0 v1 : Value} {s0 s1 : Bool} {x0 y0 x1 y1 : List Nat} {p q : Rat} (hp : p = qOf s0 x0 y0) (hq : q = qOf s1 x1 y1) (ht : (p - q).num.sign ≤ 0) (hv0 : RdN w v0 s0 x0 y0) (hx0 : x0.length ≤ 1048576) (hy0 : y0.length ≤ 1048576) (hv1 : RdN w v1 s1 x1 y1) (hx1 : x1.length ≤ 1048576) (hy1 : y1.length ≤ 1048576) :
    Calls Try.prog 9 #[v0, v1] w (Gives w fun v' _ => v' = .bool true) := by
  have HMIN : Hid (∀ {w va vb}, RdQ w va p → RdQ w vb q → Sz 10000000 p → Sz 10000000 q → Calls Try.prog 48 #[va, vb] w (Gives w fun v' w' => RdQ w' v' p)) := fun h1 h2 h3 h4 => by have := rmin_any h1 h2 h3 h4; rw [if_pos ht] at this; exact this
  have HMAX : Hid (∀ {w va vb}, RdQ w va p → RdQ w vb q → Sz 10000000 p → Sz 10000000 q → Calls Try.prog 49 #[va, vb] w (Gives w fun v' w' => RdQ w' v' q)) := fun h1 h2 h3 h4 => by
    have := rmax_any h1 h2 h3 h4
    by_cases h : 0 ≤ (p - q).num.sign
    · rw [if_pos h] at this
      have h0 : (p - q).num = 0 := Int.sign_eq_zero_iff_zero.1 (by omega)
      have h1 : p - q = 0 := Rat.num_eq_zero.1 h0
      have e : p - q + q = p := by rw [Rat.sub_eq_add_neg, Rat.add_assoc, Rat.neg_add_cancel, Rat.add_zero]
      rw [h1, Rat.zero_add] at e
      exact e ▸ this
    · rw [if_neg h] at this; exact this
  obtain ⟨t, hc, HT⟩ : ∃ t, decide (0 < t) = false ∧ Hid ((p - q).num.sign = t) := ⟨_, decide_eq_false (by omega), rfl⟩
  clear ht
  refine via fun R hR => ?_
  have HV0 := Lib.hid hv0
  have HV1 := Lib.hid hv1
  have SP : Hid (Sz 8 (qOf s0 x0 y0)) := by obtain ⟨_, _, _, h1, h2⟩ := hv0; exact qOf_sz h1.2 h2.2
  have SQ : Hid (Sz 8 (qOf s1 x1 y1)) := by obtain ⟨_, _, _, h1, h2⟩ := hv1; exact qOf_sz h1.2 h2.2
  obtain ⟨a0, c0, rfl, -, -⟩ := hv0
  obtain ⟨a1, c1, rfl, -, -⟩ := hv1
  rw [← hp] at SP
  rw [← hq] at SQ
  have hq2 := Lib.hid hp.symm
  have hq4 := Lib.hid hq.symm
  clear hp hq
  obtain ⟨w1, hw1, b1, h1, h2, z1⟩ := box2 w (.bool s0) a0 c0 (.bool s1) a1 c1 34 34
  have C1 := Lib.hid h1
  have C2 := Lib.hid h2
  have HW := Lib.hid hw1
  clear h1 h2 hw1
  obtain ⟨wh, hwh0⟩ : ∃ wh, decide (p.den = 1) = wh := ⟨_, rfl⟩
  have hwh : (((bitsOf p.den).length : Int) == 1) = wh := by
    rw [← hwh0]
    by_cases h : p.den = 1
    · rw [decide_eq_true h]; exact beqT (by have := (bits_one p.den).2 h; omega)
    · rw [decide_eq_false h]; exact beqF (by have := bits_one p.den; omega)
  have HWH := Lib.hid hwh0
  clear hwh0
  go_enter Try.func9, Try.ntmps9
  go_wp2_with fail
  rw [← HW.out]
  clear HW
  refine (hq2 ▸ both_any (HV0.out.ext b1) (by omega) (by omega)).mono ?_
  rintro e w2 ⟨_, rfl, b2, _, _, rfl, ⟨n, d, rfl, on, od⟩, ⟨m, c, rfl, om, oc⟩⟩
  obtain ⟨an, cn, rfl, -, -, -, -⟩ := on.rd.1.shape
  obtain ⟨ad, cd, rfl, -, -, -, -⟩ := od.rd.1.shape
  obtain ⟨am2, cm2, rfl, -, -, -, -⟩ := om.rd.shape
  obtain ⟨ac2, cc2, rfl, -, -, -, -⟩ := oc.rd.shape
  obtain ⟨w3, hw, b3, c1, c2, -⟩ := box2 w2 (.bool (decide (p.num < 0))) (.slice an (limbs p.num.natAbs).length cn) (.slice ad (dens p.den).length cd) (.bool (decide (p.num < 0))) (.slice am2 (bitsOf p.num.natAbs).length cm2) (.slice ac2 (bitsOf p.den).length cc2) 36 43
  have HW := Lib.hid hw
  have CQ2 := Lib.hid c1
  have CP2 := Lib.hid c2
  have RQ2 : Hid (RdQ w3 (.agg #[.bool (decide (p.num < 0)), .slice an (limbs p.num.natAbs).length cn, .slice ad (dens p.den).length cd]) p) := ⟨_, _, rfl, on.rd.ext b3, od.rd.ext b3⟩
  have RP2 : Hid (RdP w3 (.agg #[.bool (decide (p.num < 0)), .slice am2 (bitsOf p.num.natAbs).length cm2, .slice ac2 (bitsOf p.den).length cc2]) p) := ⟨_, _, rfl, om.rd.ext b3, oc.rd.ext b3⟩
  clear hw c1 c2 on od om oc
  go_upto_region 2 with (fail)
  rw [← HW.out]
  clear HW
  generalize Value.slice an (limbs p.num.natAbs).length cn = xn2 at *
  generalize Value.slice ad (dens p.den).length cd = xd2 at *
  obtain ⟨k0, k1, k2⟩ := C2.out.ext (Ext.trans b2 b3)
  go_wp2_with fail
  clear k0 k1 k2
  refine (hq4 ▸ both_any (HV1.out.ext (Ext.trans b1 (Ext.trans b2 b3))) (by omega) (by omega)).mono ?_
  rintro e w4 ⟨_, rfl, b4, _, _, rfl, ⟨n, d, rfl, on, od⟩, ⟨m, c, rfl, om, oc⟩⟩
  obtain ⟨an, cn, rfl, -, -, -, -⟩ := on.rd.1.shape
  obtain ⟨ad, cd, rfl, -, -, -, -⟩ := od.rd.1.shape
  obtain ⟨am4, cm4, rfl, -, -, -, -⟩ := om.rd.shape
  obtain ⟨ac4, cc4, rfl, -, -, -, -⟩ := oc.rd.shape
  obtain ⟨w5, hw, b5, c1, c2, -⟩ := box2 w4 (.bool (decide (q.num < 0))) (.slice an (limbs q.num.natAbs).length cn) (.slice ad (dens q.den).length cd) (.bool (decide (q.num < 0))) (.slice am4 (bitsOf q.num.natAbs).length cm4) (.slice ac4 (bitsOf q.den).length cc4) 36 43
  have HW := Lib.hid hw
  have CQ4 := Lib.hid c1
  have CP4 := Lib.hid c2
  have RQ4 : Hid (RdQ w5 (.agg #[.bool (decide (q.num < 0)), .slice an (limbs q.num.natAbs).length cn, .slice ad (dens q.den).length cd]) q) := ⟨_, _, rfl, on.rd.ext b5, od.rd.ext b5⟩
  have RP4 : Hid (RdP w5 (.agg #[.bool (decide (q.num < 0)), .slice am4 (bitsOf q.num.natAbs).length cm4, .slice ac4 (bitsOf q.den).length cc4]) q) := ⟨_, _, rfl, om.rd.ext b5, oc.rd.ext b5⟩
  clear hw c1 c2 on od om oc
  go_upto_region 3 with (fail)
  rw [← HW.out]
  clear HW
  generalize Value.slice an (limbs q.num.natAbs).length cn = xn4 at *
  generalize Value.slice ad (dens q.den).length cd = xd4 at *
  clear C1 C2 HV0 HV1
  obtain ⟨k0, k1, k2⟩ := CP2.out.ext (Ext.trans b4 b5)
  obtain ⟨e0, e1, e2⟩ := CP4.out
  go_wp2_with fail
  clear k0 k1 k2 e0 e1 e2
  refine (r5cmp_to (RP2.out.ext (Ext.trans b4 b5)) RP4.out (SP.out.bits.le (by decide)) (SQ.out.bits.le (by decide)) HT.out).mono ?_
  rintro e w6 ⟨_, rfl, b6, rfl⟩
  go_upto_region 4 with (fail)
  have b7 := Ext.refl w6
  have D2 := Lib.hid (CP2.out.ext (Ext.trans b4 (Ext.trans b5 b6)))
  have D4 := Lib.hid (CP4.out.ext b6)
  go_cut [10, 11] (fun s10 s11 wx => ∃ B C, s10 = .pointer (some ⟨B, 0, none⟩) ∧ s11 = .pointer (some ⟨C, 0, none⟩) ∧ Hid (Two w6 wx B C (.bool (decide (p.num < 0))) (.slice am2 (bitsOf p.num.natAbs).length cm2) (.slice ac2 (bitsOf p.den).length cc2) (.bool (decide (q.num < 0))) (.slice am4 (bitsOf q.num.natAbs).length cm4) (.slice ac4 (bitsOf q.den).length cc4)))
  case first =>
    have b7 := drew_ext w6
    have XE := b7
    go_region_held3 (fun w' => (w'.cell? ⟨w2.heap.size + 1, 0, none⟩ = some (.bool (decide (p.num < 0))) ∧ w'.cell? ⟨w2.heap.size + 1, 1, none⟩ = some (.slice am2 (bitsOf p.num.natAbs).length cm2) ∧ w'.cell? ⟨w2.heap.size + 1, 2, none⟩ = some (.slice ac2 (bitsOf p.den).length cc2)) ∧ (w'.cell? ⟨w4.heap.size + 1, 0, none⟩ = some (.bool (decide (q.num < 0))) ∧ w'.cell? ⟨w4.heap.size + 1, 1, none⟩ = some (.slice am4 (bitsOf q.num.natAbs).length cm4) ∧ w'.cell? ⟨w4.heap.size + 1, 2, none⟩ = some (.slice ac4 (bitsOf q.den).length cc4))) (first | exact ⟨D2.out.ext XE, D4.out.ext XE⟩ | exact ⟨D2.out.ext (by repeat (first | exact Ext.refl _ | refine Ext.trans ?_ (Ext.alloc _ _) | refine Ext.trans ?_ (drew_ext _) | refine Ext.trans ?_ ba | refine Ext.trans ?_ b40 | refine Ext.trans ?_ b39 | refine Ext.trans ?_ b38 | refine Ext.trans ?_ b37 | refine Ext.trans ?_ b36 | refine Ext.trans ?_ b35 | refine Ext.trans ?_ b34 | refine Ext.trans ?_ b33 | refine Ext.trans ?_ b32 | refine Ext.trans ?_ b31 | refine Ext.trans ?_ b30 | refine Ext.trans ?_ b29 | refine Ext.trans ?_ b28 | refine Ext.trans ?_ b27 | refine Ext.trans ?_ b26 | refine Ext.trans ?_ b25 | refine Ext.trans ?_ b24 | refine Ext.trans ?_ b23 | refine Ext.trans ?_ b22 | refine Ext.trans ?_ b21 | refine Ext.trans ?_ b20 | refine Ext.trans ?_ b19 | refine Ext.trans ?_ b18 | refine Ext.trans ?_ b17 | refine Ext.trans ?_ b16 | refine Ext.trans ?_ b15 | refine Ext.trans ?_ b14 | refine Ext.trans ?_ b13 | refine Ext.trans ?_ b12 | refine Ext.trans ?_ b11 | refine Ext.trans ?_ b10 | refine Ext.trans ?_ b9 | refine Ext.trans ?_ b8 | refine Ext.trans ?_ b7 | refine Ext.trans ?_ b6 | refine Ext.trans ?_ b5 | refine Ext.trans ?_ b4 | refine Ext.trans ?_ b3 | refine Ext.trans ?_ b2 | refine Ext.trans ?_ b1)), D4.out.ext (by repeat (first | exact Ext.refl _ | refine Ext.trans ?_ (Ext.alloc _ _) | refine Ext.trans ?_ (drew_ext _) | refine Ext.trans ?_ ba | refine Ext.trans ?_ b40 | refine Ext.trans ?_ b39 | refine Ext.trans ?_ b38 | refine Ext.trans ?_ b37 | refine Ext.trans ?_ b36 | refine Ext.trans ?_ b35 | refine Ext.trans ?_ b34 | refine Ext.trans ?_ b33 | refine Ext.trans ?_ b32 | refine Ext.trans ?_ b31 | refine Ext.trans ?_ b30 | refine Ext.trans ?_ b29 | refine Ext.trans ?_ b28 | refine Ext.trans ?_ b27 | refine Ext.trans ?_ b26 | refine Ext.trans ?_ b25 | refine Ext.trans ?_ b24 | refine Ext.trans ?_ b23 | refine Ext.trans ?_ b22 | refine Ext.trans ?_ b21 | refine Ext.trans ?_ b20 | refine Ext.trans ?_ b19 | refine Ext.trans ?_ b18 | refine Ext.trans ?_ b17 | refine Ext.trans ?_ b16 | refine Ext.trans ?_ b15 | refine Ext.trans ?_ b14 | refine Ext.trans ?_ b13 | refine Ext.trans ?_ b12 | refine Ext.trans ?_ b11 | refine Ext.trans ?_ b10 | refine Ext.trans ?_ b9 | refine Ext.trans ?_ b8 | refine Ext.trans ?_ b7 | refine Ext.trans ?_ b6 | refine Ext.trans ?_ b5 | refine Ext.trans ?_ b4 | refine Ext.trans ?_ b3 | refine Ext.trans ?_ b2 | refine Ext.trans ?_ b1))⟩)
      (first
       | fail)
    all_goals
      go_wp2_with fail
      go_meet
      first
        | exact ⟨_, _, rfl, rfl, Two.fst w6 _ _ _ _ _ _ _⟩
        | exact ⟨_, _, rfl, rfl, (Two.fst w6 _ _ _ _ _ _ _).swap⟩
  case rest =>
    obtain ⟨B, C, rfl, rfl, hT⟩ := hcut
    obtain ⟨w8, hw8⟩ : ∃ W, W = wc := ⟨_, rfl⟩
    subst hw8
    have TW := hT
    clear hT
    obtain ⟨b8, nBC, lB, lC, c1, c2, r1, r2⟩ := TW.out
    have DL := Lib.hid c1
    have DH := Lib.hid c2
    have hsz := b6.size
    clear c1 c2 r1 r2 lB lC nBC
    go_upto_region 7 with (fail)
    have D1 := Lib.hid (CQ2.out.ext (Ext.trans b4 (Ext.trans b5 (Ext.trans b6 (Ext.trans b7 b8)))))
    have D2 := Lib.hid (CP2.out.ext (Ext.trans b4 (Ext.trans b5 (Ext.trans b6 (Ext.trans b7 b8)))))
    have D3 := Lib.hid (CQ4.out.ext (Ext.trans b6 (Ext.trans b7 b8)))
    have SF := Lib.hid ((floor_sz SP.out).le (show 8 + 1 ≤ 1000000 by decide))
    clear CQ2 CQ4 CP2 CP4
    generalize Value.slice am4 (bitsOf q.num.natAbs).length cm4 = yn4 at *
    generalize Value.slice ac4 (bitsOf q.den).length cc4 = yd4 at *
    generalize Value.slice am2 (bitsOf p.num.natAbs).length cm2 = yn2 at *
    generalize Value.bool (decide (p.num < 0)) = xs2 at *
    generalize Value.bool (decide (q.num < 0)) = xs4 at *
    have b9 := drew_ext w8
    have XE := b9
    go_region_held3 (fun w' => (w'.cell? ⟨w2.heap.size, 0, none⟩ = some (xs2) ∧ w'.cell? ⟨w2.heap.size, 1, none⟩ = some (xn2) ∧ w'.cell? ⟨w2.heap.size, 2, none⟩ = some (xd2)) ∧ (w'.cell? ⟨w2.heap.size + 1, 0, none⟩ = some (xs2) ∧ w'.cell? ⟨w2.heap.size + 1, 1, none⟩ = some (yn2) ∧ w'.cell? ⟨w2.heap.size + 1, 2, none⟩ = some (.slice ac2 (bitsOf p.den).length cc2)) ∧ (w'.cell? ⟨w4.heap.size, 0, none⟩ = some (xs4) ∧ w'.cell? ⟨w4.heap.size, 1, none⟩ = some (xn4) ∧ w'.cell? ⟨w4.heap.size, 2, none⟩ = some (xd4)) ∧ (w'.cell? ⟨B, 0, none⟩ = some (xs2) ∧ w'.cell? ⟨B, 1, none⟩ = some (yn2) ∧ w'.cell? ⟨B, 2, none⟩ = some (.slice ac2 (bitsOf p.den).length cc2)) ∧ (w'.cell? ⟨C, 0, none⟩ = some (xs4) ∧ w'.cell? ⟨C, 1, none⟩ = some (yn4) ∧ w'.cell? ⟨C, 2, none⟩ = some (yd4))) (exact ⟨D1.out.ext XE, D2.out.ext XE, D3.out.ext XE, DL.out.ext XE, DH.out.ext XE⟩)
      (first
       | (go_at_call 23; refine (is_yes (O17.out.ext b18).rd O18.out.rd SF.out).mono ?_; rintro e w19 ⟨_, rfl, b19, rfl⟩; (first | have XE := Ext.trans XE b19 | have XE := Ext.trans (Ext.trans XE (Ext.alloc _ _)) b19))
       | (go_at_call 52; refine (r5floor_any (RP2.out.ext (Ext.trans b4 (Ext.trans b5 (Ext.trans b6 (Ext.trans b7 (Ext.trans b8 (Ext.trans b9 (Ext.trans b10 (Ext.trans b11 (Ext.trans b12 (Ext.trans b13 (Ext.trans b14 (Ext.trans b15 (Ext.trans b16 b17)))))))))))))) (SP.out.bits.le (by decide))).mono ?_; rintro e w18 ⟨v18, rfl, b18, o18⟩; have O18 := Lib.hid o18; clear o18; (first | have XE := Ext.trans XE b18 | have XE := Ext.trans (Ext.trans XE (Ext.alloc _ _)) b18))
       | (go_at_call 51; refine (rfloor_any (RQ2.out.ext (Ext.trans b4 (Ext.trans b5 (Ext.trans b6 (Ext.trans b7 (Ext.trans b8 (Ext.trans b9 (Ext.trans b10 (Ext.trans b11 (Ext.trans b12 (Ext.trans b13 (Ext.trans b14 (Ext.trans b15 b16))))))))))))) (SP.out.le (by decide))).mono ?_; rintro e w17 ⟨v17, rfl, b17, o17⟩; have O17 := Lib.hid o17; clear o17; (first | have XE := Ext.trans XE b17 | have XE := Ext.trans (Ext.trans XE (Ext.alloc _ _)) b17))
       | (go_at_call 50; refine (whole_to (RQ2.out.ext (Ext.trans b4 (Ext.trans b5 (Ext.trans b6 (Ext.trans b7 (Ext.trans b8 (Ext.trans b9 (Ext.trans b10 (Ext.trans b11 (Ext.trans b12 (Ext.trans b13 (Ext.trans b14 b15)))))))))))) HWH.out).mono ?_; rintro e w16 ⟨_, rfl, b16, rfl⟩; (first | have XE := Ext.trans XE b16 | have XE := Ext.trans (Ext.trans XE (Ext.alloc _ _)) b16))
       | (go_at_call 23; refine (is_yes O14.out (RP4.out.ext (Ext.trans b6 (Ext.trans b7 (Ext.trans b8 (Ext.trans b9 (Ext.trans b10 (Ext.trans b11 (Ext.trans b12 (Ext.trans b13 b14))))))))) (SQ.out.le (by decide))).mono ?_; rintro e w15 ⟨_, rfl, b15, rfl⟩; (first | have XE := Ext.trans XE b15 | have XE := Ext.trans (Ext.trans XE (Ext.alloc _ _)) b15))
       | (go_at_call 49; refine (HMAX.out (RQ2.out.ext (Ext.trans b4 (Ext.trans b5 (Ext.trans b6 (Ext.trans b7 (Ext.trans b8 (Ext.trans b9 (Ext.trans b10 (Ext.trans b11 (Ext.trans b12 b13)))))))))) (RQ4.out.ext (Ext.trans b6 (Ext.trans b7 (Ext.trans b8 (Ext.trans b9 (Ext.trans b10 (Ext.trans b11 (Ext.trans b12 b13)))))))) (SP.out.le (by decide)) (SQ.out.le (by decide))).mono ?_; rintro e w14 ⟨v14, rfl, b14, o14⟩; have O14 := Lib.hid o14; clear o14; (first | have XE := Ext.trans XE b14 | have XE := Ext.trans (Ext.trans XE (Ext.alloc _ _)) b14))
       | (go_at_call 23; refine (is_yes O12.out (RP2.out.ext (Ext.trans b4 (Ext.trans b5 (Ext.trans b6 (Ext.trans b7 (Ext.trans b8 (Ext.trans b9 (Ext.trans b10 (Ext.trans b11 b12))))))))) (SP.out.le (by decide))).mono ?_; rintro e w13 ⟨_, rfl, b13, rfl⟩; (first | have XE := Ext.trans XE b13 | have XE := Ext.trans (Ext.trans XE (Ext.alloc _ _)) b13))
       | (go_at_call 48; refine (HMIN.out (RQ2.out.ext (Ext.trans b4 (Ext.trans b5 (Ext.trans b6 (Ext.trans b7 (Ext.trans b8 (Ext.trans b9 (Ext.trans b10 b11)))))))) (RQ4.out.ext (Ext.trans b6 (Ext.trans b7 (Ext.trans b8 (Ext.trans b9 (Ext.trans b10 b11)))))) (SP.out.le (by decide)) (SQ.out.le (by decide))).mono ?_; rintro e w12 ⟨v12, rfl, b12, o12⟩; have O12 := Lib.hid o12; clear o12; (first | have XE := Ext.trans XE b12 | have XE := Ext.trans (Ext.trans XE (Ext.alloc _ _)) b12))
       | (go_at_call 34; refine (rcmp_to (RQ2.out.ext (Ext.trans b4 (Ext.trans b5 (Ext.trans b6 (Ext.trans b7 (Ext.trans b8 (Ext.trans b9 b10))))))) (RQ4.out.ext (Ext.trans b6 (Ext.trans b7 (Ext.trans b8 (Ext.trans b9 b10))))) (SP.out.le (by decide)) (SQ.out.le (by decide)) HT.out).mono ?_; rintro e w11 ⟨_, rfl, b11, rfl⟩; (first | have XE := Ext.trans XE b11 | have XE := Ext.trans (Ext.trans XE (Ext.alloc _ _)) b11))
       | (go_at_call 25; refine (awake05).mono ?_; rintro e w10 ⟨_, rfl, b10, rfl⟩; (first | have XE := Ext.trans XE b10 | have XE := Ext.trans (Ext.trans XE (Ext.alloc _ _)) b10)))
    go_wp2_with fail
    exact hR.out _ _ (Gives.mk (Ext.trans b1 (Ext.trans b2 (Ext.trans b3 (Ext.trans b4 (Ext.trans b5 (Ext.trans b6 (Ext.trans b7 (Ext.trans b8 (Ext.trans b9 (Ext.trans b10 (Ext.trans b11 (Ext.trans b12 (Ext.trans b13 (Ext.trans b14 (Ext.trans b15 (Ext.trans b16 (Ext.trans b17 (Ext.trans b18 b19)))))))))))))))))) rfl)

set_option maxHeartbeats 8000000 in
set_option maxRecDepth 100000 in
set_option linter.unusedSimpArgs false in
theorem walkB {w : World} {v0 v1 : Value} {s0 s1 : Bool} {x0 y0 x1 y1 : List Nat} {p q : Rat} (hp : p = qOf s0 x0 y0) (hq : q = qOf s1 x1 y1) (ht : 0 < (p - q).num.sign) (hv0 : RdN w v0 s0 x0 y0) (hx0 : x0.length ≤ 1048576) (hy0 : y0.length ≤ 1048576) (hv1 : RdN w v1 s1 x1 y1) (hx1 : x1.length ≤ 1048576) (hy1 : y1.length ≤ 1048576) :
    Calls Try.prog 9 #[v0, v1] w (Gives w fun v' _ => v' = .bool true) := by
  have HMIN : Hid (∀ {w va vb}, RdQ w va p → RdQ w vb q → Sz 10000000 p → Sz 10000000 q → Calls Try.prog 48 #[va, vb] w (Gives w fun v' w' => RdQ w' v' q)) := fun h1 h2 h3 h4 => by have := rmin_any h1 h2 h3 h4; rw [if_neg (by omega)] at this; exact this
  have HMAX : Hid (∀ {w va vb}, RdQ w va p → RdQ w vb q → Sz 10000000 p → Sz 10000000 q → Calls Try.prog 49 #[va, vb] w (Gives w fun v' w' => RdQ w' v' p)) := fun h1 h2 h3 h4 => by have := rmax_any h1 h2 h3 h4; rw [if_pos (by omega)] at this; exact this
  obtain ⟨t, hc, HT⟩ : ∃ t, decide (0 < t) = true ∧ Hid ((p - q).num.sign = t) := ⟨_, decide_eq_true ht, rfl⟩
  clear ht
  refine via fun R hR => ?_
  have HV0 := Lib.hid hv0
  have HV1 := Lib.hid hv1
  have SP : Hid (Sz 8 (qOf s0 x0 y0)) := by obtain ⟨_, _, _, h1, h2⟩ := hv0; exact qOf_sz h1.2 h2.2
  have SQ : Hid (Sz 8 (qOf s1 x1 y1)) := by obtain ⟨_, _, _, h1, h2⟩ := hv1; exact qOf_sz h1.2 h2.2
  obtain ⟨a0, c0, rfl, -, -⟩ := hv0
  obtain ⟨a1, c1, rfl, -, -⟩ := hv1
  rw [← hp] at SP
  rw [← hq] at SQ
  have hq2 := Lib.hid hp.symm
  have hq4 := Lib.hid hq.symm
  clear hp hq
  obtain ⟨w1, hw1, b1, h1, h2, z1⟩ := box2 w (.bool s0) a0 c0 (.bool s1) a1 c1 34 34
  have C1 := Lib.hid h1
  have C2 := Lib.hid h2
  have HW := Lib.hid hw1
  clear h1 h2 hw1
  obtain ⟨wh, hwh0⟩ : ∃ wh, decide (p.den = 1) = wh := ⟨_, rfl⟩
  have hwh : (((bitsOf p.den).length : Int) == 1) = wh := by
    rw [← hwh0]
    by_cases h : p.den = 1
    · rw [decide_eq_true h]; exact beqT (by have := (bits_one p.den).2 h; omega)
    · rw [decide_eq_false h]; exact beqF (by have := bits_one p.den; omega)
  have HWH := Lib.hid hwh0
  clear hwh0
  go_enter Try.func9, Try.ntmps9
  go_wp2_with fail
  rw [← HW.out]
  clear HW
  refine (hq2 ▸ both_any (HV0.out.ext b1) (by omega) (by omega)).mono ?_
  rintro e w2 ⟨_, rfl, b2, _, _, rfl, ⟨n, d, rfl, on, od⟩, ⟨m, c, rfl, om, oc⟩⟩
  obtain ⟨an, cn, rfl, -, -, -, -⟩ := on.rd.1.shape
  obtain ⟨ad, cd, rfl, -, -, -, -⟩ := od.rd.1.shape
  obtain ⟨am2, cm2, rfl, -, -, -, -⟩ := om.rd.shape
  obtain ⟨ac2, cc2, rfl, -, -, -, -⟩ := oc.rd.shape
  obtain ⟨w3, hw, b3, c1, c2, -⟩ := box2 w2 (.bool (decide (p.num < 0))) (.slice an (limbs p.num.natAbs).length cn) (.slice ad (dens p.den).length cd) (.bool (decide (p.num < 0))) (.slice am2 (bitsOf p.num.natAbs).length cm2) (.slice ac2 (bitsOf p.den).length cc2) 36 43
  have HW := Lib.hid hw
  have CQ2 := Lib.hid c1
  have CP2 := Lib.hid c2
  have RQ2 : Hid (RdQ w3 (.agg #[.bool (decide (p.num < 0)), .slice an (limbs p.num.natAbs).length cn, .slice ad (dens p.den).length cd]) p) := ⟨_, _, rfl, on.rd.ext b3, od.rd.ext b3⟩
  have RP2 : Hid (RdP w3 (.agg #[.bool (decide (p.num < 0)), .slice am2 (bitsOf p.num.natAbs).length cm2, .slice ac2 (bitsOf p.den).length cc2]) p) := ⟨_, _, rfl, om.rd.ext b3, oc.rd.ext b3⟩
  clear hw c1 c2 on od om oc
  go_upto_region 2 with (fail)
  rw [← HW.out]
  clear HW
  generalize Value.slice an (limbs p.num.natAbs).length cn = xn2 at *
  generalize Value.slice ad (dens p.den).length cd = xd2 at *
  obtain ⟨k0, k1, k2⟩ := C2.out.ext (Ext.trans b2 b3)
  go_wp2_with fail
  clear k0 k1 k2
  refine (hq4 ▸ both_any (HV1.out.ext (Ext.trans b1 (Ext.trans b2 b3))) (by omega) (by omega)).mono ?_
  rintro e w4 ⟨_, rfl, b4, _, _, rfl, ⟨n, d, rfl, on, od⟩, ⟨m, c, rfl, om, oc⟩⟩
  obtain ⟨an, cn, rfl, -, -, -, -⟩ := on.rd.1.shape
  obtain ⟨ad, cd, rfl, -, -, -, -⟩ := od.rd.1.shape
  obtain ⟨am4, cm4, rfl, -, -, -, -⟩ := om.rd.shape
  obtain ⟨ac4, cc4, rfl, -, -, -, -⟩ := oc.rd.shape
  obtain ⟨w5, hw, b5, c1, c2, -⟩ := box2 w4 (.bool (decide (q.num < 0))) (.slice an (limbs q.num.natAbs).length cn) (.slice ad (dens q.den).length cd) (.bool (decide (q.num < 0))) (.slice am4 (bitsOf q.num.natAbs).length cm4) (.slice ac4 (bitsOf q.den).length cc4) 36 43
  have HW := Lib.hid hw
  have CQ4 := Lib.hid c1
  have CP4 := Lib.hid c2
  have RQ4 : Hid (RdQ w5 (.agg #[.bool (decide (q.num < 0)), .slice an (limbs q.num.natAbs).length cn, .slice ad (dens q.den).length cd]) q) := ⟨_, _, rfl, on.rd.ext b5, od.rd.ext b5⟩
  have RP4 : Hid (RdP w5 (.agg #[.bool (decide (q.num < 0)), .slice am4 (bitsOf q.num.natAbs).length cm4, .slice ac4 (bitsOf q.den).length cc4]) q) := ⟨_, _, rfl, om.rd.ext b5, oc.rd.ext b5⟩
  clear hw c1 c2 on od om oc
  go_upto_region 3 with (fail)
  rw [← HW.out]
  clear HW
  generalize Value.slice an (limbs q.num.natAbs).length cn = xn4 at *
  generalize Value.slice ad (dens q.den).length cd = xd4 at *
  clear C1 C2 HV0 HV1
  obtain ⟨k0, k1, k2⟩ := CP2.out.ext (Ext.trans b4 b5)
  obtain ⟨e0, e1, e2⟩ := CP4.out
  go_wp2_with fail
  clear k0 k1 k2 e0 e1 e2
  refine (r5cmp_to (RP2.out.ext (Ext.trans b4 b5)) RP4.out (SP.out.bits.le (by decide)) (SQ.out.bits.le (by decide)) HT.out).mono ?_
  rintro e w6 ⟨_, rfl, b6, rfl⟩
  go_upto_region 4 with (fail)
  have b7 := Ext.refl w6
  have D2 := Lib.hid (CP2.out.ext (Ext.trans b4 (Ext.trans b5 b6)))
  have D4 := Lib.hid (CP4.out.ext b6)
  go_cut [10, 11] (fun s10 s11 wx => ∃ B C, s10 = .pointer (some ⟨B, 0, none⟩) ∧ s11 = .pointer (some ⟨C, 0, none⟩) ∧ Hid (Two w6 wx B C (.bool (decide (p.num < 0))) (.slice am2 (bitsOf p.num.natAbs).length cm2) (.slice ac2 (bitsOf p.den).length cc2) (.bool (decide (q.num < 0))) (.slice am4 (bitsOf q.num.natAbs).length cm4) (.slice ac4 (bitsOf q.den).length cc4)))
  case first =>
    have b7 := drew_ext w6
    have XE := b7
    go_region_held3 (fun w' => (w'.cell? ⟨w2.heap.size + 1, 0, none⟩ = some (.bool (decide (p.num < 0))) ∧ w'.cell? ⟨w2.heap.size + 1, 1, none⟩ = some (.slice am2 (bitsOf p.num.natAbs).length cm2) ∧ w'.cell? ⟨w2.heap.size + 1, 2, none⟩ = some (.slice ac2 (bitsOf p.den).length cc2)) ∧ (w'.cell? ⟨w4.heap.size + 1, 0, none⟩ = some (.bool (decide (q.num < 0))) ∧ w'.cell? ⟨w4.heap.size + 1, 1, none⟩ = some (.slice am4 (bitsOf q.num.natAbs).length cm4) ∧ w'.cell? ⟨w4.heap.size + 1, 2, none⟩ = some (.slice ac4 (bitsOf q.den).length cc4))) (first | exact ⟨D2.out.ext XE, D4.out.ext XE⟩ | exact ⟨D2.out.ext (by repeat (first | exact Ext.refl _ | refine Ext.trans ?_ (Ext.alloc _ _) | refine Ext.trans ?_ (drew_ext _) | refine Ext.trans ?_ ba | refine Ext.trans ?_ b40 | refine Ext.trans ?_ b39 | refine Ext.trans ?_ b38 | refine Ext.trans ?_ b37 | refine Ext.trans ?_ b36 | refine Ext.trans ?_ b35 | refine Ext.trans ?_ b34 | refine Ext.trans ?_ b33 | refine Ext.trans ?_ b32 | refine Ext.trans ?_ b31 | refine Ext.trans ?_ b30 | refine Ext.trans ?_ b29 | refine Ext.trans ?_ b28 | refine Ext.trans ?_ b27 | refine Ext.trans ?_ b26 | refine Ext.trans ?_ b25 | refine Ext.trans ?_ b24 | refine Ext.trans ?_ b23 | refine Ext.trans ?_ b22 | refine Ext.trans ?_ b21 | refine Ext.trans ?_ b20 | refine Ext.trans ?_ b19 | refine Ext.trans ?_ b18 | refine Ext.trans ?_ b17 | refine Ext.trans ?_ b16 | refine Ext.trans ?_ b15 | refine Ext.trans ?_ b14 | refine Ext.trans ?_ b13 | refine Ext.trans ?_ b12 | refine Ext.trans ?_ b11 | refine Ext.trans ?_ b10 | refine Ext.trans ?_ b9 | refine Ext.trans ?_ b8 | refine Ext.trans ?_ b7 | refine Ext.trans ?_ b6 | refine Ext.trans ?_ b5 | refine Ext.trans ?_ b4 | refine Ext.trans ?_ b3 | refine Ext.trans ?_ b2 | refine Ext.trans ?_ b1)), D4.out.ext (by repeat (first | exact Ext.refl _ | refine Ext.trans ?_ (Ext.alloc _ _) | refine Ext.trans ?_ (drew_ext _) | refine Ext.trans ?_ ba | refine Ext.trans ?_ b40 | refine Ext.trans ?_ b39 | refine Ext.trans ?_ b38 | refine Ext.trans ?_ b37 | refine Ext.trans ?_ b36 | refine Ext.trans ?_ b35 | refine Ext.trans ?_ b34 | refine Ext.trans ?_ b33 | refine Ext.trans ?_ b32 | refine Ext.trans ?_ b31 | refine Ext.trans ?_ b30 | refine Ext.trans ?_ b29 | refine Ext.trans ?_ b28 | refine Ext.trans ?_ b27 | refine Ext.trans ?_ b26 | refine Ext.trans ?_ b25 | refine Ext.trans ?_ b24 | refine Ext.trans ?_ b23 | refine Ext.trans ?_ b22 | refine Ext.trans ?_ b21 | refine Ext.trans ?_ b20 | refine Ext.trans ?_ b19 | refine Ext.trans ?_ b18 | refine Ext.trans ?_ b17 | refine Ext.trans ?_ b16 | refine Ext.trans ?_ b15 | refine Ext.trans ?_ b14 | refine Ext.trans ?_ b13 | refine Ext.trans ?_ b12 | refine Ext.trans ?_ b11 | refine Ext.trans ?_ b10 | refine Ext.trans ?_ b9 | refine Ext.trans ?_ b8 | refine Ext.trans ?_ b7 | refine Ext.trans ?_ b6 | refine Ext.trans ?_ b5 | refine Ext.trans ?_ b4 | refine Ext.trans ?_ b3 | refine Ext.trans ?_ b2 | refine Ext.trans ?_ b1))⟩)
      (first
       | fail)
    all_goals
      go_wp2_with fail
      go_meet
      first
        | exact ⟨_, _, rfl, rfl, Two.fst w6 _ _ _ _ _ _ _⟩
        | exact ⟨_, _, rfl, rfl, (Two.fst w6 _ _ _ _ _ _ _).swap⟩
  case rest =>
    obtain ⟨B, C, rfl, rfl, hT⟩ := hcut
    go_upto_region 6 with (fail)
    obtain ⟨w7, hw7⟩ : ∃ W, W = wc := ⟨_, rfl⟩
    subst hw7
    obtain ⟨x7, nBC, lB, lC, -, -, r1, r2⟩ := hT.out
    have E2 := Lib.hid (CP2.out.ext (Ext.trans (Ext.trans b4 (Ext.trans b5 b6)) x7))
    have E4 := Lib.hid (CP4.out.ext (Ext.trans b6 x7))
    have hB2 : Hid (w2.heap.size + 1 ≠ B) := by have h1 := b6.size; have h2 := b5.size; have h3 := b4.size; have h4 : w2.heap.size + 1 < w3.heap.size := World.block_lt_of_cell? _ _ CP2.out.1; show _ ≠ _; omega
    have hC2 : Hid (w2.heap.size + 1 ≠ C) := by have h1 := b6.size; have h2 := b5.size; have h3 := b4.size; have h4 : w2.heap.size + 1 < w3.heap.size := World.block_lt_of_cell? _ _ CP2.out.1; show _ ≠ _; omega
    have hB4 : Hid (w4.heap.size + 1 ≠ B) := by have h1 := b6.size; have h4 : w4.heap.size + 1 < w5.heap.size := World.block_lt_of_cell? _ _ CP4.out.1; show _ ≠ _; omega
    have hC4 : Hid (w4.heap.size + 1 ≠ C) := by have h1 := b6.size; have h4 : w4.heap.size + 1 < w5.heap.size := World.block_lt_of_cell? _ _ CP4.out.1; show _ ≠ _; omega
    obtain ⟨_, _, _, j0, j1, j2, g0, g1, g2⟩ := r1.cells
    obtain ⟨_, _, _, i0, i1, i2, f0, f1, f2⟩ := r2.cells
    have nCB := Ne.symm nBC
    have RB := Lib.hid r1
    have RC := Lib.hid r2
    clear lB lC r1 r2
    go_cut [10, 11] (fun s10 s11 wx => s10 = .pointer (some ⟨B, 0, none⟩) ∧ s11 = .pointer (some ⟨C, 0, none⟩) ∧ Hid (Two w6 wx B C (.bool (decide (q.num < 0))) (.slice am4 (bitsOf q.num.natAbs).length cm4) (.slice ac4 (bitsOf q.den).length cc4) (.bool (decide (p.num < 0))) (.slice am2 (bitsOf p.num.natAbs).length cm2) (.slice ac2 (bitsOf p.den).length cc2)))
    case first =>
      have b8 := drew_ext w7
      have XE := b8
      refine wp_region_noPanic ?_
      refine wp_region_held_drew (S := fun w' => (w'.cell? ⟨w2.heap.size + 1, 0, none⟩ = some (.bool (decide (p.num < 0))) ∧ w'.cell? ⟨w2.heap.size + 1, 1, none⟩ = some (.slice am2 (bitsOf p.num.natAbs).length cm2) ∧ w'.cell? ⟨w2.heap.size + 1, 2, none⟩ = some (.slice ac2 (bitsOf p.den).length cc2)) ∧ (w'.cell? ⟨w4.heap.size + 1, 0, none⟩ = some (.bool (decide (q.num < 0))) ∧ w'.cell? ⟨w4.heap.size + 1, 1, none⟩ = some (.slice am4 (bitsOf q.num.natAbs).length cm4) ∧ w'.cell? ⟨w4.heap.size + 1, 2, none⟩ = some (.slice ac4 (bitsOf q.den).length cc4))) (by kernel_rfl) (⟨E2.out.ext XE, E4.out.ext XE⟩) (fun hHeld => ?_)
      refine wpAnyH_take (i := 0) (v := ?_) rfl (by kernel_rfl) (by kernel_rfl) (by kernel_rfl) (fun _ _ _ h => h) (Or.inl ⟨by rfl, fun w0 hSw => ?_⟩) hHeld ?_
      rotate_left
      · (try dsimp only at hSw)
        go_simp
        try with_reducible rfl
      simp only [Act.put, List.getElem_toArray, List.getElem_cons_succ, List.getElem_cons_zero, List.setIfInBounds_toArray, List.set_cons_zero, List.set_cons_succ]
      refine wpAnyH_take (i := 1) (v := ?_) rfl (by kernel_rfl) (by kernel_rfl) (by kernel_rfl) (fun _ _ _ h => h) (Or.inl ⟨by rfl, fun w0 hSw => ?_⟩) hHeld ?_
      rotate_left
      · (try dsimp only at hSw)
        go_simp
        try with_reducible rfl
      simp only [Act.put, List.getElem_toArray, List.getElem_cons_succ, List.getElem_cons_zero, List.setIfInBounds_toArray, List.set_cons_zero, List.set_cons_succ]
      refine wpAnyH_ready (rs := [2]) (by kernel_rfl) (by simp) ?_
      refine AllReadyH.cons (o := _) rfl (fun K hK => ?_) AllReadyH.nil
      go_simp
      refine hK.out _ _ (⟨(E2.out.put hB2.out _ _ _).drew, (E4.out.put hB4.out _ _ _).drew⟩) (fun hHeld => ?_)
      clear hK K
      try simp only [Act.put, List.getElem_toArray, List.getElem_cons_succ, List.getElem_cons_zero, List.setIfInBounds_toArray, List.set_cons_zero, List.set_cons_succ]
      refine wpAnyH_ready (rs := [3]) (by kernel_rfl) (by simp) ?_
      refine AllReadyH.cons (o := _) rfl (fun K hK => ?_) AllReadyH.nil
      go_simp
      refine hK.out _ _ (⟨((E2.out.put hB2.out _ _ _).put hC2.out _ _ _).drew, ((E4.out.put hB4.out _ _ _).put hC4.out _ _ _).drew⟩) (fun hHeld => ?_)
      clear hK K
      try simp only [Act.put, List.getElem_toArray, List.getElem_cons_succ, List.getElem_cons_zero, List.setIfInBounds_toArray, List.set_cons_zero, List.set_cons_succ]
      refine wpAnyH_done (by kernel_rfl) ?_ _
      refine NoPanic.normal ?_
      go_wp2_with fail
      go_meet
      first
        | exact ⟨rfl, rfl, hT.out.put _ _ _ _ _ _⟩
        | exact ⟨rfl, rfl, (hT.out.swap.put _ _ _ _ _ _).swap⟩
    case rest =>
    obtain ⟨rfl, rfl, TW⟩ := hcut
    obtain ⟨w8, hw8⟩ : ∃ W, W = wc := ⟨_, rfl⟩
    subst hw8
    clear hT E2 E4 hB2 hB4 hC2 hC4 nBC nCB RB RC j0 j1 j2 g0 g1 g2 i0 i1 i2 f0 f1 f2 x7
    obtain ⟨b8, nBC, lB, lC, c1, c2, r1, r2⟩ := TW.out
    have DL := Lib.hid c1
    have DH := Lib.hid c2
    have hsz := b6.size
    clear c1 c2 r1 r2 lB lC nBC
    go_upto_region 7 with (fail)
    have D1 := Lib.hid (CQ2.out.ext (Ext.trans b4 (Ext.trans b5 (Ext.trans b6 (Ext.trans b7 b8)))))
    have D2 := Lib.hid (CP2.out.ext (Ext.trans b4 (Ext.trans b5 (Ext.trans b6 (Ext.trans b7 b8)))))
    have D3 := Lib.hid (CQ4.out.ext (Ext.trans b6 (Ext.trans b7 b8)))
    have SF := Lib.hid ((floor_sz SP.out).le (show 8 + 1 ≤ 1000000 by decide))
    clear CQ2 CQ4 CP2 CP4
    generalize Value.slice am4 (bitsOf q.num.natAbs).length cm4 = yn4 at *
    generalize Value.slice ac4 (bitsOf q.den).length cc4 = yd4 at *
    generalize Value.slice am2 (bitsOf p.num.natAbs).length cm2 = yn2 at *
    generalize Value.bool (decide (p.num < 0)) = xs2 at *
    generalize Value.bool (decide (q.num < 0)) = xs4 at *
    have b9 := drew_ext w8
    have XE := b9
    go_region_held3 (fun w' => (w'.cell? ⟨w2.heap.size, 0, none⟩ = some (xs2) ∧ w'.cell? ⟨w2.heap.size, 1, none⟩ = some (xn2) ∧ w'.cell? ⟨w2.heap.size, 2, none⟩ = some (xd2)) ∧ (w'.cell? ⟨w2.heap.size + 1, 0, none⟩ = some (xs2) ∧ w'.cell? ⟨w2.heap.size + 1, 1, none⟩ = some (yn2) ∧ w'.cell? ⟨w2.heap.size + 1, 2, none⟩ = some (.slice ac2 (bitsOf p.den).length cc2)) ∧ (w'.cell? ⟨w4.heap.size, 0, none⟩ = some (xs4) ∧ w'.cell? ⟨w4.heap.size, 1, none⟩ = some (xn4) ∧ w'.cell? ⟨w4.heap.size, 2, none⟩ = some (xd4)) ∧ (w'.cell? ⟨B, 0, none⟩ = some (xs4) ∧ w'.cell? ⟨B, 1, none⟩ = some (yn4) ∧ w'.cell? ⟨B, 2, none⟩ = some (yd4)) ∧ (w'.cell? ⟨C, 0, none⟩ = some (xs2) ∧ w'.cell? ⟨C, 1, none⟩ = some (yn2) ∧ w'.cell? ⟨C, 2, none⟩ = some (.slice ac2 (bitsOf p.den).length cc2))) (exact ⟨D1.out.ext XE, D2.out.ext XE, D3.out.ext XE, DL.out.ext XE, DH.out.ext XE⟩)
      (first
       | (go_at_call 23; refine (is_yes (O17.out.ext b18).rd O18.out.rd SF.out).mono ?_; rintro e w19 ⟨_, rfl, b19, rfl⟩; (first | have XE := Ext.trans XE b19 | have XE := Ext.trans (Ext.trans XE (Ext.alloc _ _)) b19))
       | (go_at_call 52; refine (r5floor_any (RP2.out.ext (Ext.trans b4 (Ext.trans b5 (Ext.trans b6 (Ext.trans b7 (Ext.trans b8 (Ext.trans b9 (Ext.trans b10 (Ext.trans b11 (Ext.trans b12 (Ext.trans b13 (Ext.trans b14 (Ext.trans b15 (Ext.trans b16 b17)))))))))))))) (SP.out.bits.le (by decide))).mono ?_; rintro e w18 ⟨v18, rfl, b18, o18⟩; have O18 := Lib.hid o18; clear o18; (first | have XE := Ext.trans XE b18 | have XE := Ext.trans (Ext.trans XE (Ext.alloc _ _)) b18))
       | (go_at_call 51; refine (rfloor_any (RQ2.out.ext (Ext.trans b4 (Ext.trans b5 (Ext.trans b6 (Ext.trans b7 (Ext.trans b8 (Ext.trans b9 (Ext.trans b10 (Ext.trans b11 (Ext.trans b12 (Ext.trans b13 (Ext.trans b14 (Ext.trans b15 b16))))))))))))) (SP.out.le (by decide))).mono ?_; rintro e w17 ⟨v17, rfl, b17, o17⟩; have O17 := Lib.hid o17; clear o17; (first | have XE := Ext.trans XE b17 | have XE := Ext.trans (Ext.trans XE (Ext.alloc _ _)) b17))
       | (go_at_call 50; refine (whole_to (RQ2.out.ext (Ext.trans b4 (Ext.trans b5 (Ext.trans b6 (Ext.trans b7 (Ext.trans b8 (Ext.trans b9 (Ext.trans b10 (Ext.trans b11 (Ext.trans b12 (Ext.trans b13 (Ext.trans b14 b15)))))))))))) HWH.out).mono ?_; rintro e w16 ⟨_, rfl, b16, rfl⟩; (first | have XE := Ext.trans XE b16 | have XE := Ext.trans (Ext.trans XE (Ext.alloc _ _)) b16))
       | (go_at_call 23; refine (is_yes O14.out (RP2.out.ext (Ext.trans b4 (Ext.trans b5 (Ext.trans b6 (Ext.trans b7 (Ext.trans b8 (Ext.trans b9 (Ext.trans b10 (Ext.trans b11 (Ext.trans b12 (Ext.trans b13 b14))))))))))) (SP.out.le (by decide))).mono ?_; rintro e w15 ⟨_, rfl, b15, rfl⟩; (first | have XE := Ext.trans XE b15 | have XE := Ext.trans (Ext.trans XE (Ext.alloc _ _)) b15))
       | (go_at_call 49; refine (HMAX.out (RQ2.out.ext (Ext.trans b4 (Ext.trans b5 (Ext.trans b6 (Ext.trans b7 (Ext.trans b8 (Ext.trans b9 (Ext.trans b10 (Ext.trans b11 (Ext.trans b12 b13)))))))))) (RQ4.out.ext (Ext.trans b6 (Ext.trans b7 (Ext.trans b8 (Ext.trans b9 (Ext.trans b10 (Ext.trans b11 (Ext.trans b12 b13)))))))) (SP.out.le (by decide)) (SQ.out.le (by decide))).mono ?_; rintro e w14 ⟨v14, rfl, b14, o14⟩; have O14 := Lib.hid o14; clear o14; (first | have XE := Ext.trans XE b14 | have XE := Ext.trans (Ext.trans XE (Ext.alloc _ _)) b14))
       | (go_at_call 23; refine (is_yes O12.out (RP4.out.ext (Ext.trans b6 (Ext.trans b7 (Ext.trans b8 (Ext.trans b9 (Ext.trans b10 (Ext.trans b11 b12))))))) (SQ.out.le (by decide))).mono ?_; rintro e w13 ⟨_, rfl, b13, rfl⟩; (first | have XE := Ext.trans XE b13 | have XE := Ext.trans (Ext.trans XE (Ext.alloc _ _)) b13))
       | (go_at_call 48; refine (HMIN.out (RQ2.out.ext (Ext.trans b4 (Ext.trans b5 (Ext.trans b6 (Ext.trans b7 (Ext.trans b8 (Ext.trans b9 (Ext.trans b10 b11)))))))) (RQ4.out.ext (Ext.trans b6 (Ext.trans b7 (Ext.trans b8 (Ext.trans b9 (Ext.trans b10 b11)))))) (SP.out.le (by decide)) (SQ.out.le (by decide))).mono ?_; rintro e w12 ⟨v12, rfl, b12, o12⟩; have O12 := Lib.hid o12; clear o12; (first | have XE := Ext.trans XE b12 | have XE := Ext.trans (Ext.trans XE (Ext.alloc _ _)) b12))
       | (go_at_call 34; refine (rcmp_to (RQ2.out.ext (Ext.trans b4 (Ext.trans b5 (Ext.trans b6 (Ext.trans b7 (Ext.trans b8 (Ext.trans b9 b10))))))) (RQ4.out.ext (Ext.trans b6 (Ext.trans b7 (Ext.trans b8 (Ext.trans b9 b10))))) (SP.out.le (by decide)) (SQ.out.le (by decide)) HT.out).mono ?_; rintro e w11 ⟨_, rfl, b11, rfl⟩; (first | have XE := Ext.trans XE b11 | have XE := Ext.trans (Ext.trans XE (Ext.alloc _ _)) b11))
       | (go_at_call 25; refine (awake05).mono ?_; rintro e w10 ⟨_, rfl, b10, rfl⟩; (first | have XE := Ext.trans XE b10 | have XE := Ext.trans (Ext.trans XE (Ext.alloc _ _)) b10)))
    go_wp2_with fail
    exact hR.out _ _ (Gives.mk (Ext.trans b1 (Ext.trans b2 (Ext.trans b3 (Ext.trans b4 (Ext.trans b5 (Ext.trans b6 (Ext.trans b7 (Ext.trans b8 (Ext.trans b9 (Ext.trans b10 (Ext.trans b11 (Ext.trans b12 (Ext.trans b13 (Ext.trans b14 (Ext.trans b15 (Ext.trans b16 (Ext.trans b17 (Ext.trans b18 b19)))))))))))))))))) rfl)

theorem walk {w : World} {v0 v1 : Value} {s0 s1 : Bool} {x0 y0 x1 y1 : List Nat} (hv0 : RdN w v0 s0 x0 y0) (hx0 : x0.length ≤ 1048576) (hy0 : y0.length ≤ 1048576) (hv1 : RdN w v1 s1 x1 y1) (hx1 : x1.length ≤ 1048576) (hy1 : y1.length ≤ 1048576) :
    Calls Try.prog 9 #[v0, v1] w (Gives w fun v' _ => v' = .bool true) := by
  by_cases h : 0 < (qOf s0 x0 y0 - qOf s1 x1 y1).num.sign
  · exact walkB rfl rfl h hv0 hx0 hy0 hv1 hx1 hy1
  · exact walkA rfl rfl (by omega) hv0 hx0 hy0 hv1 hx1 hy1
theorem own : ownKnob Try.prog.godebug = none := by kernel_rfl
theorem laidOut : laidOutB Try.prog = true := by kernel_rfl

set_option maxRecDepth 100000 in
theorem contract (H : Type) (enc : TypeId × Value → H) (W : World) (base : Nat) (args : Array Value) (ds gs : List (DataW H)) (before : List MemPlace)
    (hval : ∀ (j : Nat) t v, Try.f9.params[j]? = some t → args[j]? = some v → Value.okWide Try.prog W .any base t v)
    (hW : DataW.Whole enc Try.prog Try.f9.params.toList Rows.ratOrderSpec.vars false W args.toList ds gs before) (hk : Rows.uptoSmall H (ds ++ gs) = true) :
    Calls Try.prog 9 args W fun e W' => ∃ v, e = .returned v ∧ Rows.ratOrderSpec.post enc Try.prog Try.f9 false true false false W args v W' := by
  have hW' := hW
  obtain ⟨p, q, hA0, hV, rfl, hfz, hnd⟩ := hW
  have hA : DataW.TrodAll enc Try.prog W 0 (fun _ => true) true Try.f9.params.toList args.toList ds p := hA0
  rw [Try.params9] at hA hval
  obtain ⟨v0, vs0, d0, ds0, p0, q0, hargs, rfl, rfl, h0, r0⟩ := trodAll_cons hA
  obtain ⟨v1, vs1, d1, ds1, p1, q1, rfl, rfl, rfl, h1, r1⟩ := trodAll_cons r0
  obtain ⟨rfl, rfl, rfl⟩ := trodAll_nil r1
  obtain rfl : args = #[v0, v1] := by cases args; simp_all
  obtain ⟨rfl, rfl⟩ := trodVars_none hV
  have hb := bulk_small hk
  simp only [List.append_nil, bulk_cons, bulk_nil] at hb
  have k0 := h0
  have lt0 : ∀ x ∈ p0, x.block < W.heap.size := by obtain ⟨m, hm⟩ := k0; exact DataW.trod_lt m _ _ _ hm
  obtain ⟨s0, x0, y0, rd0, len0⟩ := open_N (hval 0 34 v0 rfl rfl) h0
  have k1 := h1
  have lt1 : ∀ x ∈ p1, x.block < W.heap.size := by obtain ⟨m, hm⟩ := k1; exact DataW.trod_lt m _ _ _ hm
  obtain ⟨s1, x1, y1, rd1, len1⟩ := open_N (hval 1 34 v1 rfl rfl) h1
  clear hA0
  refine (walk rd0 (by omega) (by omega) rd1 (by omega) (by omega)).mono fun e W' ⟨v, he, bel, hv⟩ => ?_
  subst he hv
  exact ⟨_, rfl, _, _, _, [], _, [], hW', trodAll_mk1 (shut_bool Try.underlying4 _), (trodAll_cons_mk (Below.trod laidOut (by kernel_rfl) (of_decide_eq_true (by kernel_rfl)) k0 bel lt0) (trodAll_cons_mk (Below.trod laidOut (by kernel_rfl) (of_decide_eq_true (by kernel_rfl)) k1 bel lt1) trodAll_mk0)), rfl, bel.frame _, fun h => by cases h⟩

set_option maxRecDepth 100000 in
theorem lifted (os : Os) (started : os.Started) (H : Type) (enc : TypeId × Value → H) (F : Stop.Interp) :
    ReturnsInHanded {} Try.checked os 9 .any ((Rows.OpenSpec.upto Rows.ratOrderSpec).pre6 enc Try.prog Try.f9 Rows.ratOrderUptoRow.domain false) (((Rows.OpenSpec.upto Rows.ratOrderSpec).at F).post enc Try.prog Try.f9 false true false false) := by
  refine returnsInHanded_of_cond (C := Try.checked) (s := Rows.OpenSpec.upto Rows.ratOrderSpec) (k := Rows.uptoSmall) rfl own started (by kernel_rfl) Try.func9
    (OpenSpec.witness (enc := enc) (C := Try.checked) (s := Rows.OpenSpec.upto Rows.ratOrderSpec) (k := Rows.uptoSmall) rfl false ⟨#[], #[.agg #[.bool false, .slice none 0 0, .slice none 0 0], .agg #[.bool false, .slice none 0 0, .slice none 0 0]], []⟩ 8 (by kernel_rfl) (by kernel_rfl) (by kernel_rfl)
      (x := ([.agg [.lit (.bool false), .nil, .nil], .agg [.lit (.bool false), .nil, .nil]], [], [])) (by kernel_rfl) rfl (by kernel_rfl)) ?_
  intro W base args ds gs before hval hW _ hk _
  exact contract H enc W base args ds gs before hval hW hk

theorem proved : Rows.RatOrderUptoSaid :=
  OpenClaim.holds_of_cond 9 Try.f9 rfl rfl rfl rfl rfl rfl rfl ⟨rfl, rfl, rfl, rfl, rfl⟩ rfl rfl rfl rfl rfl (by kernel_rfl) Try.func9 (by kernel_rfl)
    (of_decide_eq_true (by kernel_rfl)) (by unfold Func.isWrapper; first | (rw [if_pos (by decide +kernel)]; kernel_rfl) | (rw [if_neg (by decide +kernel)]; exact ⟨rfl, rfl⟩))
    (fun os started H enc _ F => lifted os started H enc F)
#print axioms proved

end Go.Proofs.Ytjnbhinjpinkaaa.ratOrder
