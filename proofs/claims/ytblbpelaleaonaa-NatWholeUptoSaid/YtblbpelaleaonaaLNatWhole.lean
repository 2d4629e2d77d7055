/- NatWhole: a quotient times its divisor, and the remainder, make the whole again; a product divided by a factor is the other factor. Conditions: the arguments hold together at most 1048576 values (the second form, Upto). -/
import Derived.Test.YtblbpelaleaonaaFrame
import Derived.Test.YtblbpelaleaonaaPAwake03
import Derived.Test.YtblbpelaleaonaaPLimbAdd
import Derived.Test.YtblbpelaleaonaaPLimbBits
import Derived.Test.YtblbpelaleaonaaNumM
namespace Go.Proofs.Ytblbpelaleaonaa.natWhole
open Go.ChangeShapes Go.WideShapes Go.ChangeAt Go.RowKit Go.Att

set_option maxRecDepth 100000 in
set_option maxHeartbeats 2000000 in
theorem walk {w : World} {va vb : Value} {xa xb : List Nat} (ha : RdL w va xa) (hla : xa.length ≤ 1048576) (hb : RdL w vb xb) (hlb : xb.length ≤ 1048576) :
    Calls Try.prog 8 #[va, vb] w (Gives w fun v' _ => v' = .bool true) := by
  refine via fun R hR => ?_
  have HA := Lib.hid ha
  have HB := Lib.hid hb
  have LA := Nat.le_trans (limbs_len_le ha.2) hla
  have LB := Nat.le_trans (limbs_len_le hb.2) hlb
  have LAB := Lib.hid (limbs_mul LA LB)
  have LQ := Lib.hid (Nat.le_trans (limbs_mono (Nat.div_le_self (nv xa) (nv xb))) LA)
  have LR := Lib.hid (Nat.le_trans (limbs_mono (Nat.mod_le (nv xa) (nv xb))) LA)
  have LQB := Lib.hid (limbs_mul LQ.out LB)
  clear ha hb LA LB
  go_enter Try.func8, Try.ntmps8
  go_wp2_with fail
  refine (Copy_any HA.out (by omega)).mono ?_
  rintro e w1 ⟨v1, rfl, b1, o1⟩
  have O1 := Lib.hid o1
  clear o1
  go_wp2_with fail
  refine (Copy_any (HB.out.ext b1) (by omega)).mono ?_
  rintro e w2 ⟨v2, rfl, b2, o2⟩
  have O2 := Lib.hid o2
  clear o2
  by_cases h0 : nv xb = 0
  · have H0 := Lib.hid h0
    have EB : Hid (blen (nv xb) = 0) := by show _ = _; rw [h0, blen_zero]
    clear h0
    go_wp2_with fail
    refine (divmod_no (O1.out.rd.ext b2) O2.out.rd (by omega) (by omega) H0.out).mono ?_
    rintro e w3 ⟨_, rfl, b3, rfl⟩
    go_wp2_with fail
    refine (Copy_any (HB.out.ext (Ext.trans b1 (Ext.trans b2 b3))) (by omega)).mono ?_
    rintro e w4 ⟨v4, rfl, b4, o4⟩
    have O4 := Lib.hid o4
    clear o4
    go_wp2_with fail
    refine (bits_any O4.out.rd (by omega)).mono ?_
    rintro e w5 ⟨_, rfl, b5, rfl⟩
    rw [EB.out]
    go_wp2_with fail
    refine (awake03).mono ?_
    rintro e w6 ⟨_, rfl, b6, rfl⟩
    go_wp2
    exact hR.out _ _ (Gives.mk (Ext.trans b1 (Ext.trans b2 (Ext.trans b3 (Ext.trans b4 (Ext.trans b5 b6))))) rfl)
  · have H0 := Lib.hid h0
    have EB : Hid (((blen (nv xb) : Int) == 0) = false) := beqF (by have := blen_pos h0; omega)
    have E1 : Hid (cmpN (nv (limbs (nv (limbs (nv (limbs (nv xa / nv xb)) * nv xb)) + nv (limbs (nv xa % nv xb))))) (nv xa) = 0) := by
      show _ = _
      rw [nv_limbs, nv_limbs, nv_limbs, nv_limbs, Nat.mul_comm, Nat.div_add_mod, cmpN_eq]
    have E2 : Hid (cmpN (nv (limbs (nv xa % nv xb))) (nv xb) = -1) := by
      show _ = _
      rw [nv_limbs]; exact cmpN_lt (Nat.mod_lt _ (by omega))
    have E3 : Hid (nv (limbs (nv xa * nv xb)) / nv xb = nv xa) := by
      show _ = _
      rw [nv_limbs, Nat.mul_div_cancel _ (by omega)]
    have E4 : Hid (nv (limbs (nv xa * nv xb)) % nv xb = 0) := by
      show _ = _
      rw [nv_limbs, Nat.mul_mod_left]
    have E5 : Hid (cmpN (nv (limbs (nv xa))) (nv xa) = 0) := by show _ = _; rw [nv_limbs, cmpN_eq]
    clear h0
    go_wp2_with fail
    refine (divmod_any (O1.out.rd.ext b2) O2.out.rd (by omega) (by omega) H0.out).mono ?_
    rintro e w3 ⟨_, rfl, b3, q3, r3, rfl, o3, p3⟩
    have O3 := Lib.hid o3
    have P3 := Lib.hid p3
    clear o3 p3
    go_wp2_with fail
    refine (Copy_any (HB.out.ext (Ext.trans b1 (Ext.trans b2 b3))) (by omega)).mono ?_
    rintro e w4 ⟨v4, rfl, b4, o4⟩
    have O4 := Lib.hid o4
    clear o4
    go_wp2_with fail
    refine (bits_any O4.out.rd (by omega)).mono ?_
    rintro e w5 ⟨_, rfl, b5, rfl⟩
    have eb := EB.out
    generalize (blen (nv xb) : Int) = bl at *
    go_wp2_with fail
    refine (awake03).mono ?_
    rintro e w6 ⟨_, rfl, b6, rfl⟩
    clear eb
    go_wp2_with fail
    refine (Copy_any (O3.out.rd.ext (Ext.trans b4 (Ext.trans b5 b6))) (by have := LQ.out; omega)).mono ?_
    rintro e w7 ⟨v7, rfl, b7, o7⟩
    have O7 := Lib.hid o7
    clear o7
    go_wp2_with fail
    refine (Copy_any (HB.out.ext (Ext.trans b1 (Ext.trans b2 (Ext.trans b3 (Ext.trans b4 (Ext.trans b5 (Ext.trans b6 b7))))))) (by omega)).mono ?_
    rintro e w8 ⟨v8, rfl, b8, o8⟩
    have O8 := Lib.hid o8
    clear o8
    go_wp2_with fail
    refine (mul_any (O7.out.rd.ext b8) O8.out.rd (by have := LQ.out; omega) (by omega)).mono ?_
    rintro e w9 ⟨v9, rfl, b9, o9⟩
    have O9 := Lib.hid o9
    clear o9
    go_wp2_with fail
    refine (Copy_any (P3.out.rd.ext (Ext.trans b4 (Ext.trans b5 (Ext.trans b6 (Ext.trans b7 (Ext.trans b8 b9)))))) (by have := LR.out; omega)).mono ?_
    rintro e w10 ⟨v10, rfl, b10, o10⟩
    have O10 := Lib.hid o10
    clear o10
    go_wp2_with fail
    refine (add_any (O9.out.rd.ext b10) O10.out.rd (by rw [nv_limbs]; have := LQB.out; omega) (by have := LR.out; omega)).mono ?_
    rintro e w11 ⟨v11, rfl, b11, o11⟩
    have O11 := Lib.hid o11
    clear o11
    go_wp2_with fail
    refine (Copy_any (HA.out.ext (Ext.trans b1 (Ext.trans b2 (Ext.trans b3 (Ext.trans b4 (Ext.trans b5 (Ext.trans b6 (Ext.trans b7 (Ext.trans b8 (Ext.trans b9 (Ext.trans b10 b11))))))))))) (by omega)).mono ?_
    rintro e w12 ⟨v12, rfl, b12, o12⟩
    have O12 := Lib.hid o12
    clear o12
    go_wp2_with fail
    refine (cmp_any (O11.out.rd.ext b12) O12.out.rd).mono ?_
    rintro e w13 ⟨_, rfl, b13, rfl⟩
    rw [E1.out]
    go_wp2_with fail
    refine (Copy_any (P3.out.rd.ext (Ext.trans b4 (Ext.trans b5 (Ext.trans b6 (Ext.trans b7 (Ext.trans b8 (Ext.trans b9 (Ext.trans b10 (Ext.trans b11 (Ext.trans b12 b13)))))))))) (by have := LR.out; omega)).mono ?_
    rintro e w14 ⟨v14, rfl, b14, o14⟩
    have O14 := Lib.hid o14
    clear o14
    go_wp2_with fail
    refine (Copy_any (HB.out.ext (Ext.trans b1 (Ext.trans b2 (Ext.trans b3 (Ext.trans b4 (Ext.trans b5 (Ext.trans b6 (Ext.trans b7 (Ext.trans b8 (Ext.trans b9 (Ext.trans b10 (Ext.trans b11 (Ext.trans b12 (Ext.trans b13 b14)))))))))))))) (by omega)).mono ?_
    rintro e w15 ⟨v15, rfl, b15, o15⟩
    have O15 := Lib.hid o15
    clear o15
    go_wp2_with fail
    refine (cmp_any (O14.out.rd.ext b15) O15.out.rd).mono ?_
    rintro e w16 ⟨_, rfl, b16, rfl⟩
    rw [E2.out]
    go_wp2_with fail
    refine (Copy_any (HA.out.ext (Ext.trans b1 (Ext.trans b2 (Ext.trans b3 (Ext.trans b4 (Ext.trans b5 (Ext.trans b6 (Ext.trans b7 (Ext.trans b8 (Ext.trans b9 (Ext.trans b10 (Ext.trans b11 (Ext.trans b12 (Ext.trans b13 (Ext.trans b14 (Ext.trans b15 b16)))))))))))))))) (by omega)).mono ?_
    rintro e w17 ⟨v17, rfl, b17, o17⟩
    have O17 := Lib.hid o17
    clear o17
    go_wp2_with fail
    refine (Copy_any (HB.out.ext (Ext.trans b1 (Ext.trans b2 (Ext.trans b3 (Ext.trans b4 (Ext.trans b5 (Ext.trans b6 (Ext.trans b7 (Ext.trans b8 (Ext.trans b9 (Ext.trans b10 (Ext.trans b11 (Ext.trans b12 (Ext.trans b13 (Ext.trans b14 (Ext.trans b15 (Ext.trans b16 b17))))))))))))))))) (by omega)).mono ?_
    rintro e w18 ⟨v18, rfl, b18, o18⟩
    have O18 := Lib.hid o18
    clear o18
    go_wp2_with fail
    refine (mul_any (O17.out.rd.ext b18) O18.out.rd (by omega) (by omega)).mono ?_
    rintro e w19 ⟨v19, rfl, b19, o19⟩
    have O19 := Lib.hid o19
    clear o19
    go_wp2_with fail
    refine (Copy_any (HB.out.ext (Ext.trans b1 (Ext.trans b2 (Ext.trans b3 (Ext.trans b4 (Ext.trans b5 (Ext.trans b6 (Ext.trans b7 (Ext.trans b8 (Ext.trans b9 (Ext.trans b10 (Ext.trans b11 (Ext.trans b12 (Ext.trans b13 (Ext.trans b14 (Ext.trans b15 (Ext.trans b16 (Ext.trans b17 (Ext.trans b18 b19))))))))))))))))))) (by omega)).mono ?_
    rintro e w20 ⟨v20, rfl, b20, o20⟩
    have O20 := Lib.hid o20
    clear o20
    go_wp2_with fail
    refine (divmod_any (O19.out.rd.ext b20) O20.out.rd (by have := LAB.out; omega) (by omega) H0.out).mono ?_
    rintro e w21 ⟨_, rfl, b21, q21, r21, rfl, o21, p21⟩
    rw [E3.out] at o21
    rw [E4.out] at p21
    have O21 := Lib.hid o21
    have P21 := Lib.hid p21
    clear o21 p21
    obtain ⟨ar, cr, rfl, _, _, _, _⟩ := P21.out.rd.1.shape
    have hl0 : (limbs 0).length ≤ 0 := by unfold limbs; rw [digs_zero]; exact Nat.le_refl _
    have hb0 : (((limbs 0).length : Int) == 0) = true := beqT (by omega)
    go_wp2_with fail
    refine (Copy_any (HA.out.ext (Ext.trans b1 (Ext.trans b2 (Ext.trans b3 (Ext.trans b4 (Ext.trans b5 (Ext.trans b6 (Ext.trans b7 (Ext.trans b8 (Ext.trans b9 (Ext.trans b10 (Ext.trans b11 (Ext.trans b12 (Ext.trans b13 (Ext.trans b14 (Ext.trans b15 (Ext.trans b16 (Ext.trans b17 (Ext.trans b18 (Ext.trans b19 (Ext.trans b20 b21))))))))))))))))))))) (by omega)).mono ?_
    rintro e w22 ⟨v22, rfl, b22, o22⟩
    have O22 := Lib.hid o22
    clear o22
    go_wp2_with fail
    refine (cmp_any (O21.out.rd.ext b22) O22.out.rd).mono ?_
    rintro e w23 ⟨_, rfl, b23, rfl⟩
    rw [E5.out]
    go_wp2
    exact hR.out _ _ (Gives.mk (Ext.trans b1 (Ext.trans b2 (Ext.trans b3 (Ext.trans b4 (Ext.trans b5 (Ext.trans b6 (Ext.trans b7 (Ext.trans b8 (Ext.trans b9 (Ext.trans b10 (Ext.trans b11 (Ext.trans b12 (Ext.trans b13 (Ext.trans b14 (Ext.trans b15 (Ext.trans b16 (Ext.trans b17 (Ext.trans b18 (Ext.trans b19 (Ext.trans b20 (Ext.trans b21 (Ext.trans b22 b23)))))))))))))))))))))) rfl)
theorem own : ownKnob Try.prog.godebug = none := by kernel_rfl
theorem laidOut : laidOutB Try.prog = true := by kernel_rfl

set_option maxRecDepth 100000 in
theorem contract (H : Type) (enc : TypeId × Value → H) (W : World) (base : Nat) (args : Array Value) (ds gs : List (DataW H)) (before : List MemPlace)
    (hval : ∀ (j : Nat) t v, Try.f8.params[j]? = some t → args[j]? = some v → Value.okWide Try.prog W .any base t v)
    (hW : DataW.Whole enc Try.prog Try.f8.params.toList Rows.natWholeSpec.vars false W args.toList ds gs before) (hk : Rows.uptoSmall H (ds ++ gs) = true) :
    Calls Try.prog 8 args W fun e W' => ∃ v, e = .returned v ∧ Rows.natWholeSpec.post enc Try.prog Try.f8 false true false false W args v W' := by
  have hW' := hW
  obtain ⟨p, q, hA0, hV, rfl, hfz, hnd⟩ := hW
  have hA : DataW.TrodAll enc Try.prog W 0 (fun _ => true) true Try.f8.params.toList args.toList ds p := hA0
  rw [Try.params8] at hA hval
  obtain ⟨v0, vs0, d0, ds0, p0, q0, hargs, rfl, rfl, h0, r0⟩ := trodAll_cons hA
  obtain ⟨v1, vs1, d1, ds1, p1, q1, rfl, rfl, rfl, h1, r1⟩ := trodAll_cons r0
  obtain ⟨rfl, rfl, rfl⟩ := trodAll_nil r1
  obtain rfl : args = #[v0, v1] := by cases args; simp_all
  obtain ⟨rfl, rfl⟩ := trodVars_none hV
  have hb := bulk_small hk
  simp only [List.append_nil, bulk_cons, bulk_nil] at hb
  have k0 := h0
  have lt0 : ∀ x ∈ p0, x.block < W.heap.size := by obtain ⟨m, hm⟩ := k0; exact DataW.trod_lt m _ _ _ hm
  obtain ⟨x0, rd0, len0⟩ := open_u32s (hval 0 22 v0 rfl rfl) h0
  have k1 := h1
  have lt1 : ∀ x ∈ p1, x.block < W.heap.size := by obtain ⟨m, hm⟩ := k1; exact DataW.trod_lt m _ _ _ hm
  obtain ⟨x1, rd1, len1⟩ := open_u32s (hval 1 22 v1 rfl rfl) h1
  clear hA0
  refine (walk rd0 (by omega) rd1 (by omega)).mono fun e W' ⟨v, he, bel, hv⟩ => ?_
  subst he hv
  exact ⟨_, rfl, _, _, _, [], _, [], hW', trodAll_mk1 (shut_bool Try.underlying4 _), (trodAll_cons_mk (Below.trod laidOut (by kernel_rfl) (of_decide_eq_true (by kernel_rfl)) k0 bel lt0) (trodAll_cons_mk (Below.trod laidOut (by kernel_rfl) (of_decide_eq_true (by kernel_rfl)) k1 bel lt1) trodAll_mk0)), rfl, bel.frame _, fun h => by cases h⟩

set_option maxRecDepth 100000 in
theorem lifted (os : Os) (started : os.Started) (H : Type) (enc : TypeId × Value → H) (F : Stop.Interp) :
    ReturnsInHanded {} Try.checked os 8 .any ((Rows.OpenSpec.upto Rows.natWholeSpec).pre6 enc Try.prog Try.f8 Rows.natWholeUptoRow.domain false) (((Rows.OpenSpec.upto Rows.natWholeSpec).at F).post enc Try.prog Try.f8 false true false false) := by
  refine returnsInHanded_of_cond (C := Try.checked) (s := Rows.OpenSpec.upto Rows.natWholeSpec) (k := Rows.uptoSmall) rfl own started (by kernel_rfl) Try.func8
    (OpenSpec.witness (enc := enc) (C := Try.checked) (s := Rows.OpenSpec.upto Rows.natWholeSpec) (k := Rows.uptoSmall) rfl false ⟨#[], #[.slice none 0 0, .slice none 0 0], []⟩ 8 (by kernel_rfl) (by kernel_rfl) (by kernel_rfl)
      (x := ([.nil, .nil], [], [])) (by kernel_rfl) rfl (by kernel_rfl)) ?_
  intro W base args ds gs before hval hW _ hk _
  exact contract H enc W base args ds gs before hval hW hk

theorem proved : Rows.NatWholeUptoSaid :=
  OpenClaim.holds_of_cond 8 Try.f8 rfl rfl rfl rfl rfl rfl rfl ⟨rfl, rfl, rfl, rfl, rfl⟩ rfl rfl rfl rfl rfl (by kernel_rfl) Try.func8 (by kernel_rfl)
    (of_decide_eq_true (by kernel_rfl)) (by unfold Func.isWrapper; first | (rw [if_pos (by decide +kernel)]; kernel_rfl) | (rw [if_neg (by decide +kernel)]; exact ⟨rfl, rfl⟩))
    (fun os started H enc _ F => lifted os started H enc F)
#print axioms proved

end Go.Proofs.Ytblbpelaleaonaa.natWhole
