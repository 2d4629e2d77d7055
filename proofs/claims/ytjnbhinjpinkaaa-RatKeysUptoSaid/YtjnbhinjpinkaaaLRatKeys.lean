/- RatKeys: two numbers have the same map key just if they are the same number. Conditions: the arguments hold together at most 1048576 values (the second form, Upto). -/
import Derived.Test.YtjnbhinjpinkaaaFrameN
import Derived.Test.YtjnbhinjpinkaaaPBoth05
import Derived.Test.YtjnbhinjpinkaaaPAwake05
import Derived.Test.YtjnbhinjpinkaaaPIs05
import Derived.Test.YtjnbhinjpinkaaaPRatCmp
import Derived.Test.YtjnbhinjpinkaaaPKey
import Derived.Test.YtjnbhinjpinkaaaPKeyOf
import Derived.Test.YtjnbhinjpinkaaaPKeyEq
namespace Go.Proofs.Ytjnbhinjpinkaaa.ratKeys
open Go.ChangeShapes Go.WideShapes Go.ChangeAt Go.RowKit Go.Att

theorem rcmp_to {w : World} {va vb : Value} {p q : Rat} {t : Int} (hp : RdQ w va p) (hq : RdQ w vb q) (sp : Sz 10000000 p) (sq : Sz 10000000 q) (h : (p - q).num.sign = t) :
    Calls Try.prog 34 #[va, vb] w (Gives w fun v' _ => v' = .int .i64 t) := h ▸ rcmp_any hp hq sp sq

set_option maxHeartbeats 8000000 in
set_option maxRecDepth 100000 in
set_option linter.unusedSimpArgs false in
theorem walk {w : World} {v0 v1 : Value} {s0 s1 : Bool} {x0 y0 x1 y1 : List Nat} (hv0 : RdN w v0 s0 x0 y0) (hx0 : x0.length ≤ 1048576) (hy0 : y0.length ≤ 1048576) (hv1 : RdN w v1 s1 x1 y1) (hx1 : x1.length ≤ 1048576) (hy1 : y1.length ≤ 1048576) :
    Calls Try.prog 8 #[v0, v1] w (Gives w fun v' _ => v' = .bool true) := by
  refine via fun R hR => ?_
  have HV0 := Lib.hid hv0
  have HV1 := Lib.hid hv1
  have SP : Hid (Sz 8 (qOf s0 x0 y0)) := by obtain ⟨_, _, _, h1, h2⟩ := hv0; exact qOf_sz h1.2 h2.2
  have SQ : Hid (Sz 8 (qOf s1 x1 y1)) := by obtain ⟨_, _, _, h1, h2⟩ := hv1; exact qOf_sz h1.2 h2.2
  obtain ⟨a0, c0, rfl, -, -⟩ := hv0
  obtain ⟨a1, c1, rfl, -, -⟩ := hv1
  obtain ⟨p, hp⟩ : ∃ p, p = qOf s0 x0 y0 := ⟨_, rfl⟩
  obtain ⟨q, hq⟩ : ∃ q, q = qOf s1 x1 y1 := ⟨_, rfl⟩
  rw [← hp] at SP
  rw [← hq] at SQ
  have hq2 := Lib.hid hp.symm
  have hq4 := Lib.hid hq.symm
  clear hp hq
  obtain ⟨w1, hw1, b1, h1, h2, z1⟩ := box2 w (.bool s0) a0 c0 (.bool s1) a1 c1 34 34
  have C1 := Lib.hid h1
  have C2 := Lib.hid h2
  have HW := Lib.hid hw1
  clear h1 h2 hw1
  go_enter Try.func8, Try.ntmps8
  go_wp2_with fail
  rw [← HW.out]
  clear HW
  refine (hq2 ▸ both_any (HV0.out.ext b1) (by omega) (by omega)).mono ?_
  rintro e w2 ⟨_, rfl, b2, _, _, rfl, ⟨n, d, rfl, on, od⟩, ⟨m, c, rfl, om, oc⟩⟩
  obtain ⟨an, cn, rfl, -, -, -, -⟩ := on.rd.1.shape
  obtain ⟨ad, cd, rfl, -, -, -, -⟩ := od.rd.1.shape
  obtain ⟨am, cm, rfl, -, -, -, -⟩ := om.rd.shape
  obtain ⟨ac, cc, rfl, -, -, -, -⟩ := oc.rd.shape
  obtain ⟨w3, hw, b3, c1, c2, -⟩ := box2 w2 (.bool (decide (p.num < 0))) (.slice an (limbs p.num.natAbs).length cn) (.slice ad (dens p.den).length cd) (.bool (decide (p.num < 0))) (.slice am (bitsOf p.num.natAbs).length cm) (.slice ac (bitsOf p.den).length cc) 36 43
  have HW := Lib.hid hw
  have CQ2 := Lib.hid c1
  have RQ2 : Hid (RdQ w3 (.agg #[.bool (decide (p.num < 0)), .slice an (limbs p.num.natAbs).length cn, .slice ad (dens p.den).length cd]) p) := ⟨_, _, rfl, on.rd.ext b3, od.rd.ext b3⟩
  clear hw c1 c2 on od om oc
  go_upto_region 2 with (fail)
  rw [← HW.out]
  clear HW
  generalize Value.slice an (limbs p.num.natAbs).length cn = xn2 at *
  generalize Value.slice ad (dens p.den).length cd = xd2 at *
  obtain ⟨k0, k1, k2⟩ := C2.out.ext (Ext.trans b2 b3)
  go_wp2_with fail
  clear k0 k1 k2
  refine (hq4 ▸ both_any (HV1.out.ext (Ext.trans b1 (Ext.trans b2 b3))) (by omega) (by omega)).mono ?_
  rintro e w4 ⟨_, rfl, b4, _, _, rfl, ⟨n, d, rfl, on, od⟩, ⟨m, c, rfl, om, oc⟩⟩
  obtain ⟨an, cn, rfl, -, -, -, -⟩ := on.rd.1.shape
  obtain ⟨ad, cd, rfl, -, -, -, -⟩ := od.rd.1.shape
  obtain ⟨am, cm, rfl, -, -, -, -⟩ := om.rd.shape
  obtain ⟨ac, cc, rfl, -, -, -, -⟩ := oc.rd.shape
  obtain ⟨w5, hw, b5, c1, c2, -⟩ := box2 w4 (.bool (decide (q.num < 0))) (.slice an (limbs q.num.natAbs).length cn) (.slice ad (dens q.den).length cd) (.bool (decide (q.num < 0))) (.slice am (bitsOf q.num.natAbs).length cm) (.slice ac (bitsOf q.den).length cc) 36 43
  have HW := Lib.hid hw
  have CQ4 := Lib.hid c1
  have RQ4 : Hid (RdQ w5 (.agg #[.bool (decide (q.num < 0)), .slice an (limbs q.num.natAbs).length cn, .slice ad (dens q.den).length cd]) q) := ⟨_, _, rfl, on.rd.ext b5, od.rd.ext b5⟩
  clear hw c1 c2 on od om oc
  go_upto_region 3 with (fail)
  rw [← HW.out]
  clear HW
  generalize Value.slice an (limbs q.num.natAbs).length cn = xn4 at *
  generalize Value.slice ad (dens q.den).length cd = xd4 at *
  clear C1 C2 HV0 HV1
  have HK : Hid (∀ {w v}, RdQ w v p → Calls Try.prog 44 #[v] w (Gives w fun v' _ => v' = .agg #[.bool (decide (p.num < 0)), .string (strOf (digs 256 p.num.natAbs)), .string (strOf (digs 256 p.den))])) := fun h => keyof_any h (SP.out.le (by decide))
  have HL : Hid (∀ {w v}, RdQ w v q → Calls Try.prog 44 #[v] w (Gives w fun v' _ => v' = .agg #[.bool (decide (q.num < 0)), .string (strOf (digs 256 q.num.natAbs)), .string (strOf (digs 256 q.den))])) := fun h => keyof_any h (SQ.out.le (by decide))
  have e8 : ∀ n, (limbs n).length ≤ 8 → (digs 256 n).length ≤ 32 := fun n h => (digs_len 256 (by decide) n 32).2 (by have := (digs_len W32 (by decide) n 8).1 h; exact Nat.lt_of_lt_of_le this (by decide))
  have HB1 : Hid (∀ w, Calls Try.prog 45 #[.string (strOf (digs 256 p.num.natAbs))] w (Gives w fun v' w' => OwnB 4 w.heap.size w' v' (bitsOf p.num.natAbs))) := fun w => by
    have := @bytes_any w _ (fit_digs 256 (by decide) p.num.natAbs) (Nat.le_trans (e8 _ SP.out.1) (by decide))
    rw [val_digs 256 (by decide)] at this
    exact this
  have HB2 : Hid (∀ w, Calls Try.prog 45 #[.string (strOf (digs 256 p.den))] w (Gives w fun v' w' => OwnB 4 w.heap.size w' v' (bitsOf p.den))) := fun w => by
    have := @bytes_any w _ (fit_digs 256 (by decide) p.den) (Nat.le_trans (e8 _ SP.out.2) (by decide))
    rw [val_digs 256 (by decide)] at this
    exact this
  have HW1 : Hid (∀ w, Calls Try.prog 46 #[.string (strOf (digs 256 p.num.natAbs))] w (Gives w fun v' _ => v' = .bool true)) := fun w => whole5_any (fit_digs 256 (by decide) _) (digs_last 256 (by decide) _) (Nat.le_trans (e8 _ SP.out.1) (by decide))
  have HW2 : Hid (∀ w, Calls Try.prog 46 #[.string (strOf (digs 256 p.den))] w (Gives w fun v' _ => v' = .bool true)) := fun w => whole5_any (fit_digs 256 (by decide) _) (digs_last 256 (by decide) _) (Nat.le_trans (e8 _ SP.out.2) (by decide))
  obtain ⟨t, hT⟩ : ∃ t, (p - q).num.sign = t := ⟨_, rfl⟩
  have hEQ : ∀ w, (Op.equalIn 10000 65 (.agg #[.bool (decide (p.num < 0)), .string (strOf (digs 256 p.num.natAbs)), .string (strOf (digs 256 p.den))]) (.agg #[.bool (decide (q.num < 0)), .string (strOf (digs 256 q.num.natAbs)), .string (strOf (digs 256 q.den))])).run Try.prog w = .ok (t == 0) w := fun w => by rw [eq_key, key_eq, hT]
  have HT := Lib.hid hT
  clear hT e8
  have lp1 : Hid ((bitsOf p.num.natAbs).length ≤ 256) := SP.out.bits.1
  have lp2 : Hid ((bitsOf p.den).length ≤ 256) := SP.out.bits.2
  have hs : decide (p.num < 0) = decide (p.num < 0) := rfl
  generalize hsp : decide (p.num < 0) = sp at *
  generalize strOf (digs 256 p.num.natAbs) = S1 at *
  generalize strOf (digs 256 p.den) = S2 at *
  generalize decide (q.num < 0) = sq at *
  generalize strOf (digs 256 q.num.natAbs) = S3 at *
  generalize strOf (digs 256 q.den) = S4 at *
  have HSP := Lib.hid hsp
  clear hsp hs
  obtain ⟨k0, k1, k2⟩ := CQ2.out.ext (Ext.trans b4 b5)
  go_wp2_with fail
  clear k0 k1 k2
  refine (HSP.out ▸ parts_any (RQ2.out.ext (Ext.trans b4 b5)) (Nat.le_trans SP.out.1 (by decide)) (Nat.le_trans SP.out.2 (by decide))).mono ?_
  rintro e w6 ⟨_, rfl, b6, v6, v6', rfl, o6, o6'⟩
  have O6 := Lib.hid o6
  have OD6 := Lib.hid o6'
  clear o6 o6'
  obtain ⟨k0, k1, k2⟩ := CQ2.out.ext (Ext.trans b4 (Ext.trans b5 b6))
  go_wp2_with fail
  clear k0 k1 k2
  refine (HK.out (RQ2.out.ext (Ext.trans b4 (Ext.trans b5 b6)))).mono ?_
  rintro e w7 ⟨_, rfl, b7, rfl⟩
  obtain ⟨w8, hw8, b8, c8, -, -⟩ := box1 w7 (.bool sp) (.string S1) (.string S2) 65
  have C8 := Lib.hid c8
  have HW := Lib.hid hw8
  clear c8 hw8
  go_upto_region 5 with (fail)
  rw [← HW.out]
  clear HW
  have D2 := Lib.hid (CQ2.out.ext (Ext.trans b4 (Ext.trans b5 (Ext.trans b6 (Ext.trans b7 b8)))))
  have D4 := Lib.hid (CQ4.out.ext (Ext.trans b6 (Ext.trans b7 b8)))
  have b9 := drew_ext w8
  have XE := b9
  go_region_held3 (fun w' => (w'.cell? ⟨w2.heap.size, 0, none⟩ = some (.bool sp) ∧ w'.cell? ⟨w2.heap.size, 1, none⟩ = some (xn2) ∧ w'.cell? ⟨w2.heap.size, 2, none⟩ = some (xd2)) ∧ (w'.cell? ⟨w4.heap.size, 0, none⟩ = some (.bool sq) ∧ w'.cell? ⟨w4.heap.size, 1, none⟩ = some (xn4) ∧ w'.cell? ⟨w4.heap.size, 2, none⟩ = some (xd4)) ∧ (w'.cell? ⟨w7.heap.size, 0, none⟩ = some (.bool sp) ∧ w'.cell? ⟨w7.heap.size, 1, none⟩ = some (.string S1) ∧ w'.cell? ⟨w7.heap.size, 2, none⟩ = some (.string S2))) (exact ⟨D2.out.ext XE, D4.out.ext XE, C8.out.ext XE⟩)
    (first
     | (go_at_call 34; refine (rcmp_to (RQ2.out.ext (Ext.trans b4 (Ext.trans b5 (Ext.trans b6 (Ext.trans b7 (Ext.trans b8 (Ext.trans b9 (Ext.trans b10 (Ext.trans b11 (Ext.trans b12 (Ext.trans b13 (Ext.trans b14 (Ext.trans b15 (Ext.trans b16 (Ext.trans b17 (Ext.trans b18 b19)))))))))))))))) (RQ4.out.ext (Ext.trans b6 (Ext.trans b7 (Ext.trans b8 (Ext.trans b9 (Ext.trans b10 (Ext.trans b11 (Ext.trans b12 (Ext.trans b13 (Ext.trans b14 (Ext.trans b15 (Ext.trans b16 (Ext.trans b17 (Ext.trans b18 b19)))))))))))))) (SP.out.le (by decide)) (SQ.out.le (by decide)) HT.out).mono ?_; rintro e w20 ⟨_, rfl, b20, rfl⟩; (first | have XE := Ext.trans XE b20 | have XE := Ext.trans (Ext.trans XE (Ext.alloc _ _)) b20))
     | (go_at_call 44; refine (HL.out (RQ4.out.ext (Ext.trans b6 (Ext.trans b7 (Ext.trans b8 (Ext.trans b9 (Ext.trans b10 (Ext.trans b11 (Ext.trans b12 (Ext.trans b13 (Ext.trans b14 (Ext.trans b15 (Ext.trans b16 (Ext.trans b17 b18)))))))))))))).mono ?_; rintro e w19 ⟨_, rfl, b19, rfl⟩; (first | have XE := Ext.trans XE b19 | have XE := Ext.trans (Ext.trans XE (Ext.alloc _ _)) b19))
     | (go_at_call 46; refine (HW2.out w17).mono ?_; rintro e w18 ⟨_, rfl, b18, rfl⟩; (first | have XE := Ext.trans XE b18 | have XE := Ext.trans (Ext.trans XE (Ext.alloc _ _)) b18))
     | (go_at_call 46; refine (HW1.out _).mono ?_; rintro e w17 ⟨_, rfl, b17, rfl⟩; (first | have XE := Ext.trans XE b17 | have XE := Ext.trans (Ext.trans XE (Ext.alloc _ _)) b17))
     | (go_at_call 16; refine (Same_yes O15.out.rd (OD6.out.rd.ext (Ext.trans b7 (Ext.trans b8 (Ext.trans b9 (Ext.trans b10 (Ext.trans b11 (Ext.trans b12 (Ext.trans b13 (Ext.trans b14 b15))))))))) (by rw [bval_bitsOf])).mono ?_; rintro e w16 ⟨_, rfl, b16, rfl⟩; (first | have XE := Ext.trans XE b16 | have XE := Ext.trans (Ext.trans XE (Ext.alloc _ _)) b16))
     | (go_at_call 17; refine (To_any O14.out.rd (by have := lp2.out; omega)).mono ?_; rintro e w15 ⟨v15, rfl, b15, o15⟩; have O15 := Lib.hid o15; clear o15; (first | have XE := Ext.trans XE b15 | have XE := Ext.trans (Ext.trans XE (Ext.alloc _ _)) b15))
     | (go_at_call 45; refine (HB2.out w13).mono ?_; rintro e w14 ⟨v14, rfl, b14, o14⟩; have O14 := Lib.hid o14; clear o14; (first | have XE := Ext.trans XE b14 | have XE := Ext.trans (Ext.trans XE (Ext.alloc _ _)) b14))
     | (go_at_call 16; refine (Same_yes O12.out.rd (O6.out.rd.ext (Ext.trans b7 (Ext.trans b8 (Ext.trans b9 (Ext.trans b10 (Ext.trans b11 b12)))))) (by rw [bval_bitsOf])).mono ?_; rintro e w13 ⟨_, rfl, b13, rfl⟩; (first | have XE := Ext.trans XE b13 | have XE := Ext.trans (Ext.trans XE (Ext.alloc _ _)) b13))
     | (go_at_call 17; refine (To_any O11.out.rd (by have := lp1.out; omega)).mono ?_; rintro e w12 ⟨v12, rfl, b12, o12⟩; have O12 := Lib.hid o12; clear o12; (first | have XE := Ext.trans XE b12 | have XE := Ext.trans (Ext.trans XE (Ext.alloc _ _)) b12))
     | (go_at_call 45; refine (HB1.out _).mono ?_; rintro e w11 ⟨v11, rfl, b11, o11⟩; have O11 := Lib.hid o11; clear o11; (first | have XE := Ext.trans XE b11 | have XE := Ext.trans (Ext.trans XE (Ext.alloc _ _)) b11))
     | (go_at_call 25; refine (awake05).mono ?_; rintro e w10 ⟨_, rfl, b10, rfl⟩; (first | have XE := Ext.trans XE b10 | have XE := Ext.trans (Ext.trans XE (Ext.alloc _ _)) b10)))
  go_wp2_with fail
  exact hR.out _ _ (Gives.mk (Ext.trans b1 (Ext.trans b2 (Ext.trans b3 (Ext.trans b4 (Ext.trans b5 (Ext.trans b6 (Ext.trans b7 (Ext.trans b8 (Ext.trans b9 (Ext.trans b10 (Ext.trans b11 (Ext.trans b12 (Ext.trans b13 (Ext.trans b14 (Ext.trans b15 (Ext.trans b16 (Ext.trans b17 (Ext.trans b18 (Ext.trans b19 b20))))))))))))))))))) rfl)
theorem own : ownKnob Try.prog.godebug = none := by kernel_rfl
theorem laidOut : laidOutB Try.prog = true := by kernel_rfl

set_option maxRecDepth 100000 in
theorem contract (H : Type) (enc : TypeId × Value → H) (W : World) (base : Nat) (args : Array Value) (ds gs : List (DataW H)) (before : List MemPlace)
    (hval : ∀ (j : Nat) t v, Try.f8.params[j]? = some t → args[j]? = some v → Value.okWide Try.prog W .any base t v)
    (hW : DataW.Whole enc Try.prog Try.f8.params.toList Rows.ratKeysSpec.vars false W args.toList ds gs before) (hk : Rows.uptoSmall H (ds ++ gs) = true) :
    Calls Try.prog 8 args W fun e W' => ∃ v, e = .returned v ∧ Rows.ratKeysSpec.post enc Try.prog Try.f8 false true false false W args v W' := by
  have hW' := hW
  obtain ⟨p, q, hA0, hV, rfl, hfz, hnd⟩ := hW
  have hA : DataW.TrodAll enc Try.prog W 0 (fun _ => true) true Try.f8.params.toList args.toList ds p := hA0
  rw [Try.params8] at hA hval
  obtain ⟨v0, vs0, d0, ds0, p0, q0, hargs, rfl, rfl, h0, r0⟩ := trodAll_cons hA
  obtain ⟨v1, vs1, d1, ds1, p1, q1, rfl, rfl, rfl, h1, r1⟩ := trodAll_cons r0
  obtain ⟨rfl, rfl, rfl⟩ := trodAll_nil r1
  obtain rfl : args = #[v0, v1] := by cases args; simp_all
  obtain ⟨rfl, rfl⟩ := trodVars_none hV
  have hb := bulk_small hk
  simp only [List.append_nil, bulk_cons, bulk_nil] at hb
  have k0 := h0
  have lt0 : ∀ x ∈ p0, x.block < W.heap.size := by obtain ⟨m, hm⟩ := k0; exact DataW.trod_lt m _ _ _ hm
  obtain ⟨s0, x0, y0, rd0, len0⟩ := open_N (hval 0 34 v0 rfl rfl) h0
  have k1 := h1
  have lt1 : ∀ x ∈ p1, x.block < W.heap.size := by obtain ⟨m, hm⟩ := k1; exact DataW.trod_lt m _ _ _ hm
  obtain ⟨s1, x1, y1, rd1, len1⟩ := open_N (hval 1 34 v1 rfl rfl) h1
  clear hA0
  refine (walk rd0 (by omega) (by omega) rd1 (by omega) (by omega)).mono fun e W' ⟨v, he, bel, hv⟩ => ?_
  subst he hv
  exact ⟨_, rfl, _, _, _, [], _, [], hW', trodAll_mk1 (shut_bool Try.underlying4 _), (trodAll_cons_mk (Below.trod laidOut (by kernel_rfl) (of_decide_eq_true (by kernel_rfl)) k0 bel lt0) (trodAll_cons_mk (Below.trod laidOut (by kernel_rfl) (of_decide_eq_true (by kernel_rfl)) k1 bel lt1) trodAll_mk0)), rfl, bel.frame _, fun h => by cases h⟩

set_option maxRecDepth 100000 in
theorem lifted (os : Os) (started : os.Started) (H : Type) (enc : TypeId × Value → H) (F : Stop.Interp) :
    ReturnsInHanded {} Try.checked os 8 .any ((Rows.OpenSpec.upto Rows.ratKeysSpec).pre6 enc Try.prog Try.f8 Rows.ratKeysUptoRow.domain false) (((Rows.OpenSpec.upto Rows.ratKeysSpec).at F).post enc Try.prog Try.f8 false true false false) := by
  refine returnsInHanded_of_cond (C := Try.checked) (s := Rows.OpenSpec.upto Rows.ratKeysSpec) (k := Rows.uptoSmall) rfl own started (by kernel_rfl) Try.func8
    (OpenSpec.witness (enc := enc) (C := Try.checked) (s := Rows.OpenSpec.upto Rows.ratKeysSpec) (k := Rows.uptoSmall) rfl false ⟨#[], #[.agg #[.bool false, .slice none 0 0, .slice none 0 0], .agg #[.bool false, .slice none 0 0, .slice none 0 0]], []⟩ 8 (by kernel_rfl) (by kernel_rfl) (by kernel_rfl)
      (x := ([.agg [.lit (.bool false), .nil, .nil], .agg [.lit (.bool false), .nil, .nil]], [], [])) (by kernel_rfl) rfl (by kernel_rfl)) ?_
  intro W base args ds gs before hval hW _ hk _
  exact contract H enc W base args ds gs before hval hW hk

theorem proved : Rows.RatKeysUptoSaid :=
  OpenClaim.holds_of_cond 8 Try.f8 rfl rfl rfl rfl rfl rfl rfl ⟨rfl, rfl, rfl, rfl, rfl⟩ rfl rfl rfl rfl rfl (by kernel_rfl) Try.func8 (by kernel_rfl)
    (of_decide_eq_true (by kernel_rfl)) (by unfold Func.isWrapper; first | (rw [if_pos (by decide +kernel)]; kernel_rfl) | (rw [if_neg (by decide +kernel)]; exact ⟨rfl, rfl⟩))
    (fun os started H enc _ F => lifted os started H enc F)
#print axioms proved

end Go.Proofs.Ytjnbhinjpinkaaa.ratKeys
