/- NatRing: products may be taken in any order and spread over sums. Conditions: the arguments hold together at most 1048576 values (the second form, Upto). -/
import Derived.Test.YtblbpelaleaonaaFrame
import Derived.Test.YtblbpelaleaonaaPAwake03
import Derived.Test.YtblbpelaleaonaaPLimbAdd
import Derived.Test.YtblbpelaleaonaaNumM
namespace Go.Proofs.Ytblbpelaleaonaa.natRing
open Go.ChangeShapes Go.WideShapes Go.ChangeAt Go.RowKit Go.Att

set_option maxRecDepth 100000 in
set_option maxHeartbeats 2000000 in
theorem walk {w : World} {va vb vc : Value} {xa xb xc : List Nat} (ha : RdL w va xa) (hla : xa.length ≤ 1048576) (hb : RdL w vb xb) (hlb : xb.length ≤ 1048576) (hc : RdL w vc xc) (hlc : xc.length ≤ 1048576) :
    Calls Try.prog 6 #[va, vb, vc] w (Gives w fun v' _ => v' = .bool true) := by
  refine via fun R hR => ?_
  have HA := Lib.hid ha
  have HB := Lib.hid hb
  have HC := Lib.hid hc
  have LA := Nat.le_trans (limbs_len_le ha.2) hla
  have LB := Nat.le_trans (limbs_len_le hb.2) hlb
  have LC := Nat.le_trans (limbs_len_le hc.2) hlc
  have LAB := Lib.hid (limbs_mul LA LB)
  have LBC := Lib.hid (limbs_mul LB LC)
  have LAC := Lib.hid (limbs_mul LA LC)
  have LS := Lib.hid (limbs_add LB LC)
  clear ha hb hc LA LB LC
  go_enter Try.func6, Try.ntmps6
  go_wp2_with fail
  refine (Copy_any HA.out (by omega)).mono ?_
  rintro e w1 ⟨v1, rfl, b1, o1⟩
  have O1 := Lib.hid o1
  clear o1
  go_wp2_with fail
  refine (Copy_any (HB.out.ext b1) (by omega)).mono ?_
  rintro e w2 ⟨v2, rfl, b2, o2⟩
  have O2 := Lib.hid o2
  clear o2
  go_wp2_with fail
  refine (mul_any (O1.out.rd.ext b2) O2.out.rd (by omega) (by omega)).mono ?_
  rintro e w3 ⟨v3, rfl, b3, o3⟩
  have O3 := Lib.hid o3
  clear o3
  go_wp2_with fail
  refine (awake03).mono ?_
  rintro e w4 ⟨_, rfl, b4, rfl⟩
  go_wp2_with fail
  refine (Copy_any (HB.out.ext (Ext.trans b1 (Ext.trans b2 (Ext.trans b3 b4)))) (by omega)).mono ?_
  rintro e w5 ⟨v5, rfl, b5, o5⟩
  have O5 := Lib.hid o5
  clear o5
  go_wp2_with fail
  refine (Copy_any (HA.out.ext (Ext.trans b1 (Ext.trans b2 (Ext.trans b3 (Ext.trans b4 b5))))) (by omega)).mono ?_
  rintro e w6 ⟨v6, rfl, b6, o6⟩
  have O6 := Lib.hid o6
  clear o6
  go_wp2_with fail
  refine (mul_any (O5.out.rd.ext b6) O6.out.rd (by omega) (by omega)).mono ?_
  rintro e w7 ⟨v7, rfl, b7, o7⟩
  have O7 := Lib.hid o7
  clear o7
  go_wp2_with fail
  refine (Same_yes (O3.out.rd.ext (Ext.trans b4 (Ext.trans b5 (Ext.trans b6 b7)))) O7.out.rd (by rw [Nat.mul_comm])).mono ?_
  rintro e w8 ⟨_, rfl, b8, rfl⟩
  go_wp2_with fail
  refine (Copy_any (O3.out.rd.ext (Ext.trans b4 (Ext.trans b5 (Ext.trans b6 (Ext.trans b7 b8))))) (by have := LAB.out; omega)).mono ?_
  rintro e w9 ⟨v9, rfl, b9, o9⟩
  have O9 := Lib.hid o9
  clear o9
  go_wp2_with fail
  refine (Copy_any (HC.out.ext (Ext.trans b1 (Ext.trans b2 (Ext.trans b3 (Ext.trans b4 (Ext.trans b5 (Ext.trans b6 (Ext.trans b7 (Ext.trans b8 b9))))))))) (by omega)).mono ?_
  rintro e w10 ⟨v10, rfl, b10, o10⟩
  have O10 := Lib.hid o10
  clear o10
  go_wp2_with fail
  refine (mul_any (O9.out.rd.ext b10) O10.out.rd (by have := LAB.out; omega) (by omega)).mono ?_
  rintro e w11 ⟨v11, rfl, b11, o11⟩
  have O11 := Lib.hid o11
  clear o11
  go_wp2_with fail
  refine (Copy_any (HA.out.ext (Ext.trans b1 (Ext.trans b2 (Ext.trans b3 (Ext.trans b4 (Ext.trans b5 (Ext.trans b6 (Ext.trans b7 (Ext.trans b8 (Ext.trans b9 (Ext.trans b10 b11))))))))))) (by omega)).mono ?_
  rintro e w12 ⟨v12, rfl, b12, o12⟩
  have O12 := Lib.hid o12
  clear o12
  go_wp2_with fail
  refine (Copy_any (HB.out.ext (Ext.trans b1 (Ext.trans b2 (Ext.trans b3 (Ext.trans b4 (Ext.trans b5 (Ext.trans b6 (Ext.trans b7 (Ext.trans b8 (Ext.trans b9 (Ext.trans b10 (Ext.trans b11 b12)))))))))))) (by omega)).mono ?_
  rintro e w13 ⟨v13, rfl, b13, o13⟩
  have O13 := Lib.hid o13
  clear o13
  go_wp2_with fail
  refine (Copy_any (HC.out.ext (Ext.trans b1 (Ext.trans b2 (Ext.trans b3 (Ext.trans b4 (Ext.trans b5 (Ext.trans b6 (Ext.trans b7 (Ext.trans b8 (Ext.trans b9 (Ext.trans b10 (Ext.trans b11 (Ext.trans b12 b13))))))))))))) (by omega)).mono ?_
  rintro e w14 ⟨v14, rfl, b14, o14⟩
  have O14 := Lib.hid o14
  clear o14
  go_wp2_with fail
  refine (mul_any (O13.out.rd.ext b14) O14.out.rd (by omega) (by omega)).mono ?_
  rintro e w15 ⟨v15, rfl, b15, o15⟩
  have O15 := Lib.hid o15
  clear o15
  go_wp2_with fail
  refine (mul_any (O12.out.rd.ext (Ext.trans b13 (Ext.trans b14 b15))) O15.out.rd (by omega) (by have := LBC.out; omega)).mono ?_
  rintro e w16 ⟨v16, rfl, b16, o16⟩
  have O16 := Lib.hid o16
  clear o16
  go_wp2_with fail
  refine (Same_yes (O11.out.rd.ext (Ext.trans b12 (Ext.trans b13 (Ext.trans b14 (Ext.trans b15 b16))))) O16.out.rd (by rw [nv_limbs, nv_limbs, Nat.mul_assoc])).mono ?_
  rintro e w17 ⟨_, rfl, b17, rfl⟩
  go_wp2_with fail
  refine (Copy_any (HA.out.ext (Ext.trans b1 (Ext.trans b2 (Ext.trans b3 (Ext.trans b4 (Ext.trans b5 (Ext.trans b6 (Ext.trans b7 (Ext.trans b8 (Ext.trans b9 (Ext.trans b10 (Ext.trans b11 (Ext.trans b12 (Ext.trans b13 (Ext.trans b14 (Ext.trans b15 (Ext.trans b16 b17))))))))))))))))) (by omega)).mono ?_
  rintro e w18 ⟨v18, rfl, b18, o18⟩
  have O18 := Lib.hid o18
  clear o18
  go_wp2_with fail
  refine (Copy_any (HB.out.ext (Ext.trans b1 (Ext.trans b2 (Ext.trans b3 (Ext.trans b4 (Ext.trans b5 (Ext.trans b6 (Ext.trans b7 (Ext.trans b8 (Ext.trans b9 (Ext.trans b10 (Ext.trans b11 (Ext.trans b12 (Ext.trans b13 (Ext.trans b14 (Ext.trans b15 (Ext.trans b16 (Ext.trans b17 b18)))))))))))))))))) (by omega)).mono ?_
  rintro e w19 ⟨v19, rfl, b19, o19⟩
  have O19 := Lib.hid o19
  clear o19
  go_wp2_with fail
  refine (Copy_any (HC.out.ext (Ext.trans b1 (Ext.trans b2 (Ext.trans b3 (Ext.trans b4 (Ext.trans b5 (Ext.trans b6 (Ext.trans b7 (Ext.trans b8 (Ext.trans b9 (Ext.trans b10 (Ext.trans b11 (Ext.trans b12 (Ext.trans b13 (Ext.trans b14 (Ext.trans b15 (Ext.trans b16 (Ext.trans b17 (Ext.trans b18 b19))))))))))))))))))) (by omega)).mono ?_
  rintro e w20 ⟨v20, rfl, b20, o20⟩
  have O20 := Lib.hid o20
  clear o20
  go_wp2_with fail
  refine (add_any (O19.out.rd.ext b20) O20.out.rd (by omega) (by omega)).mono ?_
  rintro e w21 ⟨v21, rfl, b21, o21⟩
  have O21 := Lib.hid o21
  clear o21
  go_wp2_with fail
  refine (mul_any (O18.out.rd.ext (Ext.trans b19 (Ext.trans b20 b21))) O21.out.rd (by omega) (by have := LS.out; omega)).mono ?_
  rintro e w22 ⟨v22, rfl, b22, o22⟩
  have O22 := Lib.hid o22
  clear o22
  go_wp2_with fail
  refine (Copy_any (O3.out.rd.ext (Ext.trans b4 (Ext.trans b5 (Ext.trans b6 (Ext.trans b7 (Ext.trans b8 (Ext.trans b9 (Ext.trans b10 (Ext.trans b11 (Ext.trans b12 (Ext.trans b13 (Ext.trans b14 (Ext.trans b15 (Ext.trans b16 (Ext.trans b17 (Ext.trans b18 (Ext.trans b19 (Ext.trans b20 (Ext.trans b21 b22))))))))))))))))))) (by have := LAB.out; omega)).mono ?_
  rintro e w23 ⟨v23, rfl, b23, o23⟩
  have O23 := Lib.hid o23
  clear o23
  go_wp2_with fail
  refine (Copy_any (HA.out.ext (Ext.trans b1 (Ext.trans b2 (Ext.trans b3 (Ext.trans b4 (Ext.trans b5 (Ext.trans b6 (Ext.trans b7 (Ext.trans b8 (Ext.trans b9 (Ext.trans b10 (Ext.trans b11 (Ext.trans b12 (Ext.trans b13 (Ext.trans b14 (Ext.trans b15 (Ext.trans b16 (Ext.trans b17 (Ext.trans b18 (Ext.trans b19 (Ext.trans b20 (Ext.trans b21 (Ext.trans b22 b23))))))))))))))))))))))) (by omega)).mono ?_
  rintro e w24 ⟨v24, rfl, b24, o24⟩
  have O24 := Lib.hid o24
  clear o24
  go_wp2_with fail
  refine (Copy_any (HC.out.ext (Ext.trans b1 (Ext.trans b2 (Ext.trans b3 (Ext.trans b4 (Ext.trans b5 (Ext.trans b6 (Ext.trans b7 (Ext.trans b8 (Ext.trans b9 (Ext.trans b10 (Ext.trans b11 (Ext.trans b12 (Ext.trans b13 (Ext.trans b14 (Ext.trans b15 (Ext.trans b16 (Ext.trans b17 (Ext.trans b18 (Ext.trans b19 (Ext.trans b20 (Ext.trans b21 (Ext.trans b22 (Ext.trans b23 b24)))))))))))))))))))))))) (by omega)).mono ?_
  rintro e w25 ⟨v25, rfl, b25, o25⟩
  have O25 := Lib.hid o25
  clear o25
  go_wp2_with fail
  refine (mul_any (O24.out.rd.ext b25) O25.out.rd (by omega) (by omega)).mono ?_
  rintro e w26 ⟨v26, rfl, b26, o26⟩
  have O26 := Lib.hid o26
  clear o26
  go_wp2_with fail
  refine (add_any (O23.out.rd.ext (Ext.trans b24 (Ext.trans b25 b26))) O26.out.rd (by have := LAB.out; omega) (by have := LAC.out; omega)).mono ?_
  rintro e w27 ⟨v27, rfl, b27, o27⟩
  have O27 := Lib.hid o27
  clear o27
  go_wp2_with fail
  refine (Same_yes (O22.out.rd.ext (Ext.trans b23 (Ext.trans b24 (Ext.trans b25 (Ext.trans b26 b27))))) O27.out.rd (by rw [nv_limbs, nv_limbs, nv_limbs, Nat.mul_add])).mono ?_
  rintro e w28 ⟨_, rfl, b28, rfl⟩
  go_wp2
  exact hR.out _ _ (Gives.mk (Ext.trans b1 (Ext.trans b2 (Ext.trans b3 (Ext.trans b4 (Ext.trans b5 (Ext.trans b6 (Ext.trans b7 (Ext.trans b8 (Ext.trans b9 (Ext.trans b10 (Ext.trans b11 (Ext.trans b12 (Ext.trans b13 (Ext.trans b14 (Ext.trans b15 (Ext.trans b16 (Ext.trans b17 (Ext.trans b18 (Ext.trans b19 (Ext.trans b20 (Ext.trans b21 (Ext.trans b22 (Ext.trans b23 (Ext.trans b24 (Ext.trans b25 (Ext.trans b26 (Ext.trans b27 b28))))))))))))))))))))))))))) rfl)
theorem own : ownKnob Try.prog.godebug = none := by kernel_rfl
theorem laidOut : laidOutB Try.prog = true := by kernel_rfl

set_option maxRecDepth 100000 in
theorem contract (H : Type) (enc : TypeId × Value → H) (W : World) (base : Nat) (args : Array Value) (ds gs : List (DataW H)) (before : List MemPlace)
    (hval : ∀ (j : Nat) t v, Try.f6.params[j]? = some t → args[j]? = some v → Value.okWide Try.prog W .any base t v)
    (hW : DataW.Whole enc Try.prog Try.f6.params.toList Rows.natRingSpec.vars false W args.toList ds gs before) (hk : Rows.uptoSmall H (ds ++ gs) = true) :
    Calls Try.prog 6 args W fun e W' => ∃ v, e = .returned v ∧ Rows.natRingSpec.post enc Try.prog Try.f6 false true false false W args v W' := by
  have hW' := hW
  obtain ⟨p, q, hA0, hV, rfl, hfz, hnd⟩ := hW
  have hA : DataW.TrodAll enc Try.prog W 0 (fun _ => true) true Try.f6.params.toList args.toList ds p := hA0
  rw [Try.params6] at hA hval
  obtain ⟨v0, vs0, d0, ds0, p0, q0, hargs, rfl, rfl, h0, r0⟩ := trodAll_cons hA
  obtain ⟨v1, vs1, d1, ds1, p1, q1, rfl, rfl, rfl, h1, r1⟩ := trodAll_cons r0
  obtain ⟨v2, vs2, d2, ds2, p2, q2, rfl, rfl, rfl, h2, r2⟩ := trodAll_cons r1
  obtain ⟨rfl, rfl, rfl⟩ := trodAll_nil r2
  obtain rfl : args = #[v0, v1, v2] := by cases args; simp_all
  obtain ⟨rfl, rfl⟩ := trodVars_none hV
  have hb := bulk_small hk
  simp only [List.append_nil, bulk_cons, bulk_nil] at hb
  have k0 := h0
  have lt0 : ∀ x ∈ p0, x.block < W.heap.size := by obtain ⟨m, hm⟩ := k0; exact DataW.trod_lt m _ _ _ hm
  obtain ⟨x0, rd0, len0⟩ := open_u32s (hval 0 22 v0 rfl rfl) h0
  have k1 := h1
  have lt1 : ∀ x ∈ p1, x.block < W.heap.size := by obtain ⟨m, hm⟩ := k1; exact DataW.trod_lt m _ _ _ hm
  obtain ⟨x1, rd1, len1⟩ := open_u32s (hval 1 22 v1 rfl rfl) h1
  have k2 := h2
  have lt2 : ∀ x ∈ p2, x.block < W.heap.size := by obtain ⟨m, hm⟩ := k2; exact DataW.trod_lt m _ _ _ hm
  obtain ⟨x2, rd2, len2⟩ := open_u32s (hval 2 22 v2 rfl rfl) h2
  clear hA0
  refine (walk rd0 (by omega) rd1 (by omega) rd2 (by omega)).mono fun e W' ⟨v, he, bel, hv⟩ => ?_
  subst he hv
  exact ⟨_, rfl, _, _, _, [], _, [], hW', trodAll_mk1 (shut_bool Try.underlying4 _), (trodAll_cons_mk (Below.trod laidOut (by kernel_rfl) (of_decide_eq_true (by kernel_rfl)) k0 bel lt0) (trodAll_cons_mk (Below.trod laidOut (by kernel_rfl) (of_decide_eq_true (by kernel_rfl)) k1 bel lt1) (trodAll_cons_mk (Below.trod laidOut (by kernel_rfl) (of_decide_eq_true (by kernel_rfl)) k2 bel lt2) trodAll_mk0))), rfl, bel.frame _, fun h => by cases h⟩

set_option maxRecDepth 100000 in
theorem lifted (os : Os) (started : os.Started) (H : Type) (enc : TypeId × Value → H) (F : Stop.Interp) :
    ReturnsInHanded {} Try.checked os 6 .any ((Rows.OpenSpec.upto Rows.natRingSpec).pre6 enc Try.prog Try.f6 Rows.natRingUptoRow.domain false) (((Rows.OpenSpec.upto Rows.natRingSpec).at F).post enc Try.prog Try.f6 false true false false) := by
  refine returnsInHanded_of_cond (C := Try.checked) (s := Rows.OpenSpec.upto Rows.natRingSpec) (k := Rows.uptoSmall) rfl own started (by kernel_rfl) Try.func6
    (OpenSpec.witness (enc := enc) (C := Try.checked) (s := Rows.OpenSpec.upto Rows.natRingSpec) (k := Rows.uptoSmall) rfl false ⟨#[], #[.slice none 0 0, .slice none 0 0, .slice none 0 0], []⟩ 8 (by kernel_rfl) (by kernel_rfl) (by kernel_rfl)
      (x := ([.nil, .nil, .nil], [], [])) (by kernel_rfl) rfl (by kernel_rfl)) ?_
  intro W base args ds gs before hval hW _ hk _
  exact contract H enc W base args ds gs before hval hW hk

theorem proved : Rows.NatRingUptoSaid :=
  OpenClaim.holds_of_cond 6 Try.f6 rfl rfl rfl rfl rfl rfl rfl ⟨rfl, rfl, rfl, rfl, rfl⟩ rfl rfl rfl rfl rfl (by kernel_rfl) Try.func6 (by kernel_rfl)
    (of_decide_eq_true (by kernel_rfl)) (by unfold Func.isWrapper; first | (rw [if_pos (by decide +kernel)]; kernel_rfl) | (rw [if_neg (by decide +kernel)]; exact ⟨rfl, rfl⟩))
    (fun os started H enc _ F => lifted os started H enc F)
#print axioms proved

end Go.Proofs.Ytblbpelaleaonaa.natRing
