/- LimbLaws: a sum taken apart gives back its parts, a shift back undoes a shift, and order goes with sums. Conditions: the arguments hold together at most 1048576 values (the second form, Upto). -/
import Derived.Test.YtjkebebkadpnjaaFrame
import Derived.Test.YtjkebebkadpnjaaW12
import Derived.Test.YtjkebebkadpnjaaNum5
namespace Go.Proofs.Ytjkebebkadpnjaa.limbLaws
open Go.ChangeShapes Go.WideShapes Go.ChangeAt Go.RowKit Go.Att

theorem blen_shl_eq (x n : Nat) (h : x ≠ 0) : blen (x * 2 ^ n) = blen x + n := by
  have := blen_high 0 x n (Nat.two_pow_pos n) h
  rw [Nat.zero_add, Nat.mul_comm] at this
  omega
theorem walk {w : World} {va vb : Value} {xa xb : List Nat} (ha : RdL w va xa) (hla : xa.length ≤ 1048576) (hb : RdL w vb xb) (hlb : xb.length ≤ 1048576) {u : Int} (hu : -9223372036854775808 ≤ u ∧ u ≤ 9223372036854775807) :
    Calls Try.prog 7 #[va, vb, .int .i64 u] w (Gives w fun v' _ => v' = .bool true) := by
  refine via fun R hR => ?_
  have HA := Lib.hid ha
  have HB := Lib.hid hb
  have LA := Lib.hid (Nat.le_trans (limbs_len_le ha.2) hla)
  have LB := Lib.hid (Nat.le_trans (limbs_len_le hb.2) hlb)
  have LS := Lib.hid (limbs_add LA.out LB.out)
  clear ha hb
  obtain ⟨hu0, hu1⟩ := hu
  have E0 : Hid (nv (limbs (nv xa + nv xb)) = nv xa + nv xb) := nv_limbs _
  have E1 : Hid (nv xa ≤ nv (limbs (nv xa + nv xb))) := by rw [show nv (limbs (nv xa + nv xb)) = nv xa + nv xb from nv_limbs _]; exact Nat.le_add_right _ _
  have E2 : Hid (cmpN (nv (limbs (nv (limbs (nv xa + nv xb)) - nv xa))) (nv xb) = 0) := by
    show _ = _
    rw [nv_limbs, nv_limbs, Nat.add_sub_cancel_left, cmpN_eq]
  have E3 : Hid (cmpN (nv xa) (nv (limbs (nv xa + nv xb))) ≤ 0) := by
    show _ ≤ _
    rw [nv_limbs]
    rcases cmpN_cases (nv xa) (nv xa + nv xb) with ⟨h, _⟩ | ⟨_, h⟩ | ⟨_, h⟩ <;> omega
  obtain ⟨n, hn, hn2⟩ : ∃ n : Nat, n ≤ 500 ∧ (u.tmod 500 = n ∨ (1 ≤ n ∧ u.tmod 500 = -(n : Int))) := by
    have h := Int.natAbs_tmod u 500
    have h2 : u.natAbs % 500 < 500 := Nat.mod_lt _ (by decide)
    refine ⟨(u.tmod 500).natAbs, by rw [h]; simp; omega, ?_⟩
    omega
  have HM := Lib.hid hn2
  clear hn2
  have E4 : Hid (nv (limbs (nv (limbs (nv xa + nv xb)) * 2 ^ n)) / 2 ^ n = nv xa + nv xb) := by
    show _ = _
    rw [nv_limbs, nv_limbs, Nat.mul_div_cancel _ (Nat.two_pow_pos n)]
  go_enter Try.func7, Try.ntmps7
  go_wp2_with fail
  refine (Copy_any HA.out (by omega)).mono ?_
  rintro e w1 ⟨v1, rfl, b1, o1⟩
  have O1 := Lib.hid o1
  clear o1
  go_wp2_with fail
  refine (Copy_any (HB.out.ext b1) (by omega)).mono ?_
  rintro e w2 ⟨v2, rfl, b2, o2⟩
  have O2 := Lib.hid o2
  clear o2
  go_wp2_with fail
  refine (add_any (O1.out.rd.ext b2) O2.out.rd (by omega) (by omega)).mono ?_
  rintro e w3 ⟨v3, rfl, b3, o3⟩
  have O3 := Lib.hid o3
  clear o3
  go_wp2_with fail
  refine (Copy_any O3.out.rd (by have := LS.out; omega)).mono ?_
  rintro e w4 ⟨v4, rfl, b4, o4⟩
  have O4 := Lib.hid o4
  clear o4
  go_wp2_with fail
  refine (Copy_any (HA.out.ext (Ext.trans b1 (Ext.trans b2 (Ext.trans b3 b4)))) (by omega)).mono ?_
  rintro e w5 ⟨v5, rfl, b5, o5⟩
  have O5 := Lib.hid o5
  clear o5
  go_wp2_with fail
  refine (sub_yes (O4.out.rd.ext b5) O5.out.rd E1.out (by have := LS.out; omega)).mono ?_
  rintro e w6 ⟨_, rfl, b6, v6, rfl, o6⟩
  have O6 := Lib.hid o6
  clear o6
  rcases HM.out with hm | ⟨hn1, hm⟩
  all_goals
    go_wp2_with fail
    clear hm
    refine (Copy_any (O3.out.rd.ext (Ext.trans b4 (Ext.trans b5 b6))) (by have := LS.out; omega)).mono ?_
    rintro e w7 ⟨v7, rfl, b7, o7⟩
    have O7 := Lib.hid o7
    clear o7
    go_wp2_with fail
    refine (shl_any n (by omega) O7.out.rd (by have := LS.out; omega)).mono ?_
    rintro e w8 ⟨_, rfl, b8, v8, rfl, o8⟩
    have O8 := Lib.hid o8
    clear o8
    go_wp2_with fail
    refine (Copy_any O8.out.rd (by have := LS.out; rw [E0.out]; have := limbs_shl (n := n) LS.out; omega)).mono ?_
    rintro e w9 ⟨v9, rfl, b9, o9⟩
    have O9 := Lib.hid o9
    clear o9
    go_wp2_with fail
    refine (shr_any n (by omega) O9.out.rd (by have := LS.out; rw [E0.out]; have := limbs_shl (n := n) LS.out; omega)).mono ?_
    rintro e w10 ⟨_, rfl, b10, v10, rfl, o10⟩
    have O10 := Lib.hid o10
    clear o10
    rw [E4.out] at O10
    go_wp2_with fail
    refine (awake02).mono ?_
    rintro e w11 ⟨_, rfl, b11, rfl⟩
    go_wp2_with fail
    refine (Copy_any (HB.out.ext (Ext.trans b1 (Ext.trans b2 (Ext.trans b3 (Ext.trans b4 (Ext.trans b5 (Ext.trans b6 (Ext.trans b7 (Ext.trans b8 (Ext.trans b9 (Ext.trans b10 b11))))))))))) (by omega)).mono ?_
    rintro e w12 ⟨v12, rfl, b12, o12⟩
    have O12 := Lib.hid o12
    clear o12
    go_wp2_with fail
    refine (cmp_any (O6.out.rd.ext (Ext.trans b7 (Ext.trans b8 (Ext.trans b9 (Ext.trans b10 (Ext.trans b11 b12)))))) O12.out.rd).mono ?_
    rintro e w13 ⟨_, rfl, b13, rfl⟩
    rw [E2.out]
    go_wp2_with fail
    refine (Same_yes (O10.out.rd.ext (Ext.trans b11 (Ext.trans b12 b13))) (O3.out.rd.ext (Ext.trans b4 (Ext.trans b5 (Ext.trans b6 (Ext.trans b7 (Ext.trans b8 (Ext.trans b9 (Ext.trans b10 (Ext.trans b11 (Ext.trans b12 b13)))))))))) rfl).mono ?_
    rintro e w14 ⟨_, rfl, b14, rfl⟩
    obtain ⟨a3, c3, rfl, hc3, hm3, _, _⟩ := O3.out.rd.1.shape
    by_cases h0 : nv xa + nv xb = 0
    · have hl0 : (limbs (nv xa + nv xb)).length ≤ 0 := by rw [h0]; unfold limbs; rw [digs_zero]; exact Nat.le_refl _
      have ht : (((limbs (nv xa + nv xb)).length : Int) == 0) = true := beqT (by omega)
      clear h0
      go_wp2_with fail
      refine (Copy_any (HA.out.ext (Ext.trans b1 (Ext.trans b2 (Ext.trans b3 (Ext.trans b4 (Ext.trans b5 (Ext.trans b6 (Ext.trans b7 (Ext.trans b8 (Ext.trans b9 (Ext.trans b10 (Ext.trans b11 (Ext.trans b12 (Ext.trans b13 b14)))))))))))))) (by omega)).mono ?_
      rintro e w15 ⟨v15, rfl, b15, o15⟩
      have O15 := Lib.hid o15
      clear o15
      go_wp2_with fail
      refine (cmp_any O15.out.rd (O3.out.rd.ext (Ext.trans b4 (Ext.trans b5 (Ext.trans b6 (Ext.trans b7 (Ext.trans b8 (Ext.trans b9 (Ext.trans b10 (Ext.trans b11 (Ext.trans b12 (Ext.trans b13 (Ext.trans b14 b15))))))))))))).mono ?_
      rintro e w16 ⟨_, rfl, b16, rfl⟩
      have e3 := E3.out
      generalize cmpN (nv xa) (nv (limbs (nv xa + nv xb))) = cc at *
      go_wp2
      exact hR.out _ _ (Gives.mk (Ext.trans b1 (Ext.trans b2 (Ext.trans b3 (Ext.trans b4 (Ext.trans b5 (Ext.trans b6 (Ext.trans b7 (Ext.trans b8 (Ext.trans b9 (Ext.trans b10 (Ext.trans b11 (Ext.trans b12 (Ext.trans b13 (Ext.trans b14 (Ext.trans b15 b16))))))))))))))) rfl)
    · have hl0 : 0 < (limbs (nv xa + nv xb)).length := (blen_limbs _ h0).2.2
      have ht : (((limbs (nv xa + nv xb)).length : Int) == 0) = false := beqF (by omega)
      have E5 : Hid (blen (nv (limbs (nv (limbs (nv xa + nv xb)) * 2 ^ n))) = blen (nv (limbs (nv xa + nv xb))) + n) := by
        show _ = _
        rw [nv_limbs, nv_limbs]
        exact blen_shl_eq _ _ h0
      clear h0
      go_wp2_with fail
      refine (bits_any (O8.out.rd.ext (Ext.trans b9 (Ext.trans b10 (Ext.trans b11 (Ext.trans b12 (Ext.trans b13 b14)))))) (by rw [E0.out]; have := limbs_shl (n := n) LS.out; omega)).mono ?_
      rintro e w15 ⟨_, rfl, b15, rfl⟩
      go_wp2_with fail
      refine (bits_any (O3.out.rd.ext (Ext.trans b4 (Ext.trans b5 (Ext.trans b6 (Ext.trans b7 (Ext.trans b8 (Ext.trans b9 (Ext.trans b10 (Ext.trans b11 (Ext.trans b12 (Ext.trans b13 (Ext.trans b14 b15)))))))))))) (by have := LS.out; omega)).mono ?_
      rintro e w16 ⟨_, rfl, b16, rfl⟩
      rw [E5.out]
      generalize hbl : blen (nv (limbs (nv xa + nv xb))) = bl at *
      have hbl2 : bl ≤ 33554465 := by
        rw [← hbl, nv_limbs]
        have := blen_of_limbs LS.out
        omega
      clear hbl
      go_wp2_with fail
      refine (Copy_any (HA.out.ext (Ext.trans b1 (Ext.trans b2 (Ext.trans b3 (Ext.trans b4 (Ext.trans b5 (Ext.trans b6 (Ext.trans b7 (Ext.trans b8 (Ext.trans b9 (Ext.trans b10 (Ext.trans b11 (Ext.trans b12 (Ext.trans b13 (Ext.trans b14 (Ext.trans b15 b16)))))))))))))))) (by omega)).mono ?_
      rintro e w17 ⟨v17, rfl, b17, o17⟩
      have O17 := Lib.hid o17
      clear o17
      go_wp2_with fail
      refine (cmp_any O17.out.rd (O3.out.rd.ext (Ext.trans b4 (Ext.trans b5 (Ext.trans b6 (Ext.trans b7 (Ext.trans b8 (Ext.trans b9 (Ext.trans b10 (Ext.trans b11 (Ext.trans b12 (Ext.trans b13 (Ext.trans b14 (Ext.trans b15 (Ext.trans b16 b17))))))))))))))).mono ?_
      rintro e w18 ⟨_, rfl, b18, rfl⟩
      have e3 := E3.out
      generalize cmpN (nv xa) (nv (limbs (nv xa + nv xb))) = cc at *
      go_wp2
      exact hR.out _ _ (Gives.mk (Ext.trans b1 (Ext.trans b2 (Ext.trans b3 (Ext.trans b4 (Ext.trans b5 (Ext.trans b6 (Ext.trans b7 (Ext.trans b8 (Ext.trans b9 (Ext.trans b10 (Ext.trans b11 (Ext.trans b12 (Ext.trans b13 (Ext.trans b14 (Ext.trans b15 (Ext.trans b16 (Ext.trans b17 b18))))))))))))))))) rfl)
theorem own : ownKnob Try.prog.godebug = none := by kernel_rfl
theorem laidOut : laidOutB Try.prog = true := by kernel_rfl

set_option maxRecDepth 100000 in
theorem contract (H : Type) (enc : TypeId × Value → H) (W : World) (base : Nat) (args : Array Value) (ds gs : List (DataW H)) (before : List MemPlace)
    (hval : ∀ (j : Nat) t v, Try.f7.params[j]? = some t → args[j]? = some v → Value.okWide Try.prog W .any base t v)
    (hW : DataW.Whole enc Try.prog Try.f7.params.toList Rows.limbLawsSpec.vars false W args.toList ds gs before) (hk : Rows.uptoSmall H (ds ++ gs) = true) :
    Calls Try.prog 7 args W fun e W' => ∃ v, e = .returned v ∧ Rows.limbLawsSpec.post enc Try.prog Try.f7 false true false false W args v W' := by
  have hW' := hW
  obtain ⟨p, q, hA0, hV, rfl, hfz, hnd⟩ := hW
  have hA : DataW.TrodAll enc Try.prog W 0 (fun _ => true) true Try.f7.params.toList args.toList ds p := hA0
  rw [Try.params7] at hA hval
  obtain ⟨v0, vs0, d0, ds0, p0, q0, hargs, rfl, rfl, h0, r0⟩ := trodAll_cons hA
  obtain ⟨v1, vs1, d1, ds1, p1, q1, rfl, rfl, rfl, h1, r1⟩ := trodAll_cons r0
  obtain ⟨v2, vs2, d2, ds2, p2, q2, rfl, rfl, rfl, h2, r2⟩ := trodAll_cons r1
  obtain ⟨rfl, rfl, rfl⟩ := trodAll_nil r2
  obtain rfl : args = #[v0, v1, v2] := by cases args; simp_all
  obtain ⟨rfl, rfl⟩ := trodVars_none hV
  have hb := bulk_small hk
  simp only [List.append_nil, bulk_cons, bulk_nil] at hb
  have k0 := h0
  have lt0 : ∀ x ∈ p0, x.block < W.heap.size := by obtain ⟨m, hm⟩ := k0; exact DataW.trod_lt m _ _ _ hm
  obtain ⟨x0, rd0, len0⟩ := open_u32s (hval 0 22 v0 rfl rfl) h0
  have k1 := h1
  have lt1 : ∀ x ∈ p1, x.block < W.heap.size := by obtain ⟨m, hm⟩ := k1; exact DataW.trod_lt m _ _ _ hm
  obtain ⟨x1, rd1, len1⟩ := open_u32s (hval 1 22 v1 rfl rfl) h1
  obtain ⟨a2, rfl, rfl, rfl, wf2⟩ := open_int Try.underlying3 (hval 2 3 v2 rfl rfl) h2
  clear hA0
  refine (walk rd0 (by omega) rd1 (by omega) (wf_int wf2)).mono fun e W' ⟨v, he, bel, hv⟩ => ?_
  subst he hv
  exact ⟨_, rfl, _, _, _, [], _, [], hW', trodAll_mk1 (shut_bool Try.underlying4 _), (trodAll_cons_mk (Below.trod laidOut (by kernel_rfl) (of_decide_eq_true (by kernel_rfl)) k0 bel lt0) (trodAll_cons_mk (Below.trod laidOut (by kernel_rfl) (of_decide_eq_true (by kernel_rfl)) k1 bel lt1) (trodAll_cons_mk (shut_int Try.underlying3 wf2) trodAll_mk0))), rfl, bel.frame _, fun h => by cases h⟩

set_option maxRecDepth 100000 in
theorem lifted (os : Os) (started : os.Started) (H : Type) (enc : TypeId × Value → H) (F : Stop.Interp) :
    ReturnsInHanded {} Try.checked os 7 .any ((Rows.OpenSpec.upto Rows.limbLawsSpec).pre6 enc Try.prog Try.f7 Rows.limbLawsUptoRow.domain false) (((Rows.OpenSpec.upto Rows.limbLawsSpec).at F).post enc Try.prog Try.f7 false true false false) := by
  refine returnsInHanded_of_cond (C := Try.checked) (s := Rows.OpenSpec.upto Rows.limbLawsSpec) (k := Rows.uptoSmall) rfl own started (by kernel_rfl) Try.func7
    (OpenSpec.witness (enc := enc) (C := Try.checked) (s := Rows.OpenSpec.upto Rows.limbLawsSpec) (k := Rows.uptoSmall) rfl false ⟨#[], #[.slice none 0 0, .slice none 0 0, .int .i64 0], []⟩ 8 (by kernel_rfl) (by kernel_rfl) (by kernel_rfl)
      (x := ([.nil, .nil, .lit (.int .i64 0)], [], [])) (by kernel_rfl) rfl (by kernel_rfl)) ?_
  intro W base args ds gs before hval hW _ hk _
  exact contract H enc W base args ds gs before hval hW hk

theorem proved : Rows.LimbLawsUptoSaid :=
  OpenClaim.holds_of_cond 7 Try.f7 rfl rfl rfl rfl rfl rfl rfl ⟨rfl, rfl, rfl, rfl, rfl⟩ rfl rfl rfl rfl rfl (by kernel_rfl) Try.func7 (by kernel_rfl)
    (of_decide_eq_true (by kernel_rfl)) (by unfold Func.isWrapper; first | (rw [if_pos (by decide +kernel)]; kernel_rfl) | (rw [if_neg (by decide +kernel)]; exact ⟨rfl, rfl⟩))
    (fun os started H enc _ F => lifted os started H enc F)
#print axioms proved

end Go.Proofs.Ytjkebebkadpnjaa.limbLaws
