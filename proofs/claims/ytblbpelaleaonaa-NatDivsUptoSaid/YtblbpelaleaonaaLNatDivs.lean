/- NatDivs: quotients and remainders are the ones of long division bit by bit, for both divisions. Conditions: the arguments hold together at most 1048576 values (the second form, Upto). -/
import Derived.Test.YtblbpelaleaonaaFrame
import Derived.Test.YtblbpelaleaonaaPAwake03
import Derived.Test.YtblbpelaleaonaaPNatDivWord
import Derived.Test.YtblbpelaleaonaaPRef3DivMod
import Derived.Test.YtblbpelaleaonaaPRefWord
import Derived.Test.YtblbpelaleaonaaPRefLow
import Derived.Test.YtblbpelaleaonaaPRefOf
import Derived.Test.YtblbpelaleaonaaPRefTo
import Derived.Test.YtblbpelaleaonaaPRefSame
namespace Go.Proofs.Ytblbpelaleaonaa.natDivs
open Go.ChangeShapes Go.WideShapes Go.ChangeAt Go.RowKit Go.Att

set_option maxRecDepth 100000 in
set_option maxHeartbeats 4000000 in
theorem walk {w : World} {va vb : Value} {xa xb : List Nat} {u : Int} (ha : RdL w va xa) (hla : xa.length ≤ 1048576) (hb : RdL w vb xb) (hlb : xb.length ≤ 1048576) (hu : 0 ≤ u ∧ u ≤ 4294967295) :
    Calls Try.prog 4 #[va, vb, .int .u32 u] w (Gives w fun v' _ => v' = .bool true) := by
  obtain ⟨d, rfl⟩ := Int.eq_ofNat_of_zero_le hu.1
  have hdd : d ≤ 4294967295 := by omega
  clear hu
  refine via fun R hR => ?_
  have HA := Lib.hid ha
  have HB := Lib.hid hb
  have ta : (xa.take 60).length ≤ 60 := by simp; omega
  have tb : (xb.take 60).length ≤ 60 := by simp; omega
  have fa : Fit W32 (xa.take 60) := fun x hx => ha.2 x (List.mem_of_mem_take hx)
  have fb : Fit W32 (xb.take 60) := fun x hx => hb.2 x (List.mem_of_mem_take hx)
  have LA : Hid ((bitsOf (nv (xa.take 60))).length ≤ 1920) := Nat.le_trans (blen_nv fa) (by omega)
  have LB : Hid ((bitsOf (nv (xb.take 60))).length ≤ 1920) := Nat.le_trans (blen_nv fb) (by omega)
  have LQ : Hid (∀ m, (bitsOf (nv (xa.take 60) / m)).length ≤ 1920) := fun m => Nat.le_trans (blen_mono (Nat.div_le_self _ _)) LA.out
  have LR : Hid (∀ m, (bitsOf (nv (xa.take 60) % m)).length ≤ 1920) := fun m => Nat.le_trans (blen_mono (Nat.mod_le _ _)) LA.out
  clear ha hb fa fb
  go_enter Try.func4, Try.ntmps4
  go_wp2_with fail
  refine (few_any 60 (by omega) HA.out (by omega)).mono ?_
  rintro e w1 ⟨v1, rfl, b1, o1⟩
  have O1 := Lib.hid o1
  clear o1
  go_wp2_with fail
  refine (few_any 60 (by omega) (HB.out.ext b1) (by omega)).mono ?_
  rintro e w2 ⟨v2, rfl, b2, o2⟩
  have O2 := Lib.hid o2
  clear o2
  go_wp2_with fail
  refine (Copy_any (O1.out.rd.ext b2) (by omega)).mono ?_
  rintro e w3 ⟨v3, rfl, b3, o3⟩
  have O3 := Lib.hid o3
  clear o3
  go_wp2_with fail
  refine (Copy_any (O2.out.rd.ext b3) (by omega)).mono ?_
  rintro e w4 ⟨v4, rfl, b4, o4⟩
  have O4 := Lib.hid o4
  clear o4
  by_cases hz : nv (xb.take 60) = 0
  · have hz0 : bitsOf (nv (xb.take 60)) = [] := by rw [hz]; exact List.length_eq_zero_iff.1 (by rw [bitsOf_blen, blen_zero])
    go_wp2_with fail
    refine (divmod_no (O3.out.rd.ext b4) O4.out.rd (by omega) (by omega) hz).mono ?_
    rintro e w5 ⟨_, rfl, b5, rfl⟩
    go_wp2_with fail
    refine (Of_any (O1.out.rd.ext (Ext.trans b2 (Ext.trans b3 (Ext.trans b4 b5)))) (by omega)).mono ?_
    rintro e w6 ⟨v6, rfl, b6, o6⟩
    have O6 := Lib.hid o6
    clear o6
    go_wp2_with fail
    refine (Of_any (O2.out.rd.ext (Ext.trans b3 (Ext.trans b4 (Ext.trans b5 b6)))) (by omega)).mono ?_
    rintro e w7 ⟨v7, rfl, b7, o7⟩
    have O7 := Lib.hid o7
    clear o7
    rw [hz0] at O7
    obtain ⟨a7, c7, rfl, _, _, _, _⟩ := O7.out.rd.shape
    clear O7
    by_cases hd : d = 0
    · subst hd
      go_wp2_with fail
      refine (Copy_any (O1.out.rd.ext (Ext.trans b2 (Ext.trans b3 (Ext.trans b4 (Ext.trans b5 (Ext.trans b6 b7)))))) (by omega)).mono ?_
      rintro e w8 ⟨v8, rfl, b8, o8⟩
      have O8 := Lib.hid o8
      clear o8
      go_wp2_with fail
      refine divword_no.mono ?_
      rintro e _ ⟨rfl, rfl⟩
      go_wp2_with fail
      refine (awake03).mono ?_
      rintro e w9 ⟨_, rfl, b9, rfl⟩
      go_wp2_with fail
      exact hR.out _ _ (Gives.mk (Ext.trans b1 (Ext.trans b2 (Ext.trans b3 (Ext.trans b4 (Ext.trans b5 (Ext.trans b6 (Ext.trans b7 (Ext.trans b8 b9)))))))) rfl)
    · have hd1 : 1 ≤ d := by omega
      have hm := Nat.mod_lt (nv (xa.take 60)) hd1
      have LO : Hid (bval (bitsOf (nv (xa.take 60) % d)) % W64 = nv (xa.take 60) % d) := by show _ = _; rw [bval_bitsOf]; exact Nat.mod_eq_of_lt (by show _ < 18446744073709551616; omega)
      go_wp2_with fail
      refine (Copy_any (O1.out.rd.ext (Ext.trans b2 (Ext.trans b3 (Ext.trans b4 (Ext.trans b5 (Ext.trans b6 b7)))))) (by omega)).mono ?_
      rintro e w8 ⟨v8, rfl, b8, o8⟩
      have O8 := Lib.hid o8
      clear o8
      go_wp2_with fail
      refine (divword_any d hd1 (by omega) O8.out.rd (by omega)).mono ?_
      rintro e w9 ⟨_, rfl, b9, v9, rfl, o9⟩
      have O9 := Lib.hid o9
      clear o9
      go_wp2_with fail
      refine (rWord_any d (by omega)).mono ?_
      rintro e w10 ⟨v10, rfl, b10, o10⟩
      have O10 := Lib.hid o10
      clear o10
      go_wp2_with fail
      refine (r3DivMod_any (O6.out.rd.ext (Ext.trans b7 (Ext.trans b8 (Ext.trans b9 b10)))) O10.out.rd hd (by have := LA.out; omega) (by have := (bitsOf_len d 32).2 (by omega); omega)).mono ?_
      rintro e w11 ⟨_, rfl, b11, q11, r11, rfl, o11, p11⟩
      rw [bval_bitsOf] at o11 p11
      have O11 := Lib.hid o11
      have P11 := Lib.hid p11
      clear o11 p11
      go_wp2_with fail
      refine (awake03).mono ?_
      rintro e w12 ⟨_, rfl, b12, rfl⟩
      go_wp2_with fail
      refine (To_any (O11.out.rd.ext b12) (by have := LQ.out d; omega)).mono ?_
      rintro e w13 ⟨v13, rfl, b13, o13⟩
      have O13 := Lib.hid o13
      clear o13
      go_wp2_with fail
      refine (Same_yes (O9.out.rd.ext (Ext.trans b10 (Ext.trans b11 (Ext.trans b12 b13)))) O13.out.rd (by rw [bval_bitsOf])).mono ?_
      rintro e w14 ⟨_, rfl, b14, rfl⟩
      go_wp2_with fail
      refine (rLow_any (P11.out.rd.ext (Ext.trans b12 (Ext.trans b13 b14)))).mono ?_
      rintro e w15 ⟨_, rfl, b15, rfl⟩
      rw [LO.out]
      go_wp2_with fail
      exact hR.out _ _ (Gives.mk (Ext.trans b1 (Ext.trans b2 (Ext.trans b3 (Ext.trans b4 (Ext.trans b5 (Ext.trans b6 (Ext.trans b7 (Ext.trans b8 (Ext.trans b9 (Ext.trans b10 (Ext.trans b11 (Ext.trans b12 (Ext.trans b13 (Ext.trans b14 b15)))))))))))))) rfl)
  · have hz0 : 1 ≤ (bitsOf (nv (xb.take 60))).length := by rw [bitsOf_blen]; exact blen_pos hz
    go_wp2_with fail
    refine (divmod_any (O3.out.rd.ext b4) O4.out.rd (by omega) (by omega) hz).mono ?_
    rintro e w5 ⟨_, rfl, b5, q5, r5, rfl, o5, p5⟩
    have O5 := Lib.hid o5
    have P5 := Lib.hid p5
    clear o5 p5
    go_wp2_with fail
    refine (Of_any (O1.out.rd.ext (Ext.trans b2 (Ext.trans b3 (Ext.trans b4 b5)))) (by omega)).mono ?_
    rintro e w6 ⟨v6, rfl, b6, o6⟩
    have O6 := Lib.hid o6
    clear o6
    go_wp2_with fail
    refine (Of_any (O2.out.rd.ext (Ext.trans b3 (Ext.trans b4 (Ext.trans b5 b6)))) (by omega)).mono ?_
    rintro e w7 ⟨v7, rfl, b7, o7⟩
    have O7 := Lib.hid o7
    clear o7
    obtain ⟨a7, c7, rfl, h71, h72, _, _⟩ := O7.out.rd.shape
    go_wp2_with fail
    refine (r3DivMod_any (O6.out.rd.ext b7) O7.out.rd hz (by have := LA.out; omega) (by have := LB.out; omega)).mono ?_
    rintro e w8 ⟨_, rfl, b8, q8, r8, rfl, o8, p8⟩
    rw [bval_bitsOf] at o8 p8
    have O8 := Lib.hid o8
    have P8 := Lib.hid p8
    clear o8 p8
    go_wp2_with fail
    refine (To_any O8.out.rd (by have := LQ.out (nv (xb.take 60)); omega)).mono ?_
    rintro e w9 ⟨v9, rfl, b9, o9⟩
    have O9 := Lib.hid o9
    clear o9
    go_wp2_with fail
    refine (Same_yes (O5.out.rd.ext (Ext.trans b6 (Ext.trans b7 (Ext.trans b8 b9)))) O9.out.rd (by rw [bval_bitsOf])).mono ?_
    rintro e w10 ⟨_, rfl, b10, rfl⟩
    go_wp2_with fail
    refine (To_any (P8.out.rd.ext (Ext.trans b9 b10)) (by have := LR.out (nv (xb.take 60)); omega)).mono ?_
    rintro e w11 ⟨v11, rfl, b11, o11⟩
    have O11 := Lib.hid o11
    clear o11
    go_wp2_with fail
    refine (Same_yes (P5.out.rd.ext (Ext.trans b6 (Ext.trans b7 (Ext.trans b8 (Ext.trans b9 (Ext.trans b10 b11)))))) O11.out.rd (by rw [bval_bitsOf])).mono ?_
    rintro e w12 ⟨_, rfl, b12, rfl⟩
    by_cases hd : d = 0
    · subst hd
      go_wp2_with fail
      refine (Copy_any (O1.out.rd.ext (Ext.trans b2 (Ext.trans b3 (Ext.trans b4 (Ext.trans b5 (Ext.trans b6 (Ext.trans b7 (Ext.trans b8 (Ext.trans b9 (Ext.trans b10 (Ext.trans b11 b12))))))))))) (by omega)).mono ?_
      rintro e w13 ⟨v13, rfl, b13, o13⟩
      have O13 := Lib.hid o13
      clear o13
      go_wp2_with fail
      refine divword_no.mono ?_
      rintro e _ ⟨rfl, rfl⟩
      go_wp2_with fail
      refine (awake03).mono ?_
      rintro e w14 ⟨_, rfl, b14, rfl⟩
      go_wp2_with fail
      exact hR.out _ _ (Gives.mk (Ext.trans b1 (Ext.trans b2 (Ext.trans b3 (Ext.trans b4 (Ext.trans b5 (Ext.trans b6 (Ext.trans b7 (Ext.trans b8 (Ext.trans b9 (Ext.trans b10 (Ext.trans b11 (Ext.trans b12 (Ext.trans b13 b14))))))))))))) rfl)
    · have hd1 : 1 ≤ d := by omega
      have hm := Nat.mod_lt (nv (xa.take 60)) hd1
      have LO : Hid (bval (bitsOf (nv (xa.take 60) % d)) % W64 = nv (xa.take 60) % d) := by show _ = _; rw [bval_bitsOf]; exact Nat.mod_eq_of_lt (by show _ < 18446744073709551616; omega)
      go_wp2_with fail
      refine (Copy_any (O1.out.rd.ext (Ext.trans b2 (Ext.trans b3 (Ext.trans b4 (Ext.trans b5 (Ext.trans b6 (Ext.trans b7 (Ext.trans b8 (Ext.trans b9 (Ext.trans b10 (Ext.trans b11 b12))))))))))) (by omega)).mono ?_
      rintro e w13 ⟨v13, rfl, b13, o13⟩
      have O13 := Lib.hid o13
      clear o13
      go_wp2_with fail
      refine (divword_any d hd1 (by omega) O13.out.rd (by omega)).mono ?_
      rintro e w14 ⟨_, rfl, b14, v14, rfl, o14⟩
      have O14 := Lib.hid o14
      clear o14
      go_wp2_with fail
      refine (rWord_any d (by omega)).mono ?_
      rintro e w15 ⟨v15, rfl, b15, o15⟩
      have O15 := Lib.hid o15
      clear o15
      go_wp2_with fail
      refine (r3DivMod_any (O6.out.rd.ext (Ext.trans b7 (Ext.trans b8 (Ext.trans b9 (Ext.trans b10 (Ext.trans b11 (Ext.trans b12 (Ext.trans b13 (Ext.trans b14 b15))))))))) O15.out.rd hd (by have := LA.out; omega) (by have := (bitsOf_len d 32).2 (by omega); omega)).mono ?_
      rintro e w16 ⟨_, rfl, b16, q16, r16, rfl, o16, p16⟩
      rw [bval_bitsOf] at o16 p16
      have O16 := Lib.hid o16
      have P16 := Lib.hid p16
      clear o16 p16
      go_wp2_with fail
      refine (awake03).mono ?_
      rintro e w17 ⟨_, rfl, b17, rfl⟩
      go_wp2_with fail
      refine (To_any (O16.out.rd.ext b17) (by have := LQ.out d; omega)).mono ?_
      rintro e w18 ⟨v18, rfl, b18, o18⟩
      have O18 := Lib.hid o18
      clear o18
      go_wp2_with fail
      refine (Same_yes (O14.out.rd.ext (Ext.trans b15 (Ext.trans b16 (Ext.trans b17 b18)))) O18.out.rd (by rw [bval_bitsOf])).mono ?_
      rintro e w19 ⟨_, rfl, b19, rfl⟩
      go_wp2_with fail
      refine (rLow_any (P16.out.rd.ext (Ext.trans b17 (Ext.trans b18 b19)))).mono ?_
      rintro e w20 ⟨_, rfl, b20, rfl⟩
      rw [LO.out]
      go_wp2_with fail
      exact hR.out _ _ (Gives.mk (Ext.trans b1 (Ext.trans b2 (Ext.trans b3 (Ext.trans b4 (Ext.trans b5 (Ext.trans b6 (Ext.trans b7 (Ext.trans b8 (Ext.trans b9 (Ext.trans b10 (Ext.trans b11 (Ext.trans b12 (Ext.trans b13 (Ext.trans b14 (Ext.trans b15 (Ext.trans b16 (Ext.trans b17 (Ext.trans b18 (Ext.trans b19 b20))))))))))))))))))) rfl)
theorem own : ownKnob Try.prog.godebug = none := by kernel_rfl
theorem laidOut : laidOutB Try.prog = true := by kernel_rfl

set_option maxRecDepth 100000 in
theorem contract (H : Type) (enc : TypeId × Value → H) (W : World) (base : Nat) (args : Array Value) (ds gs : List (DataW H)) (before : List MemPlace)
    (hval : ∀ (j : Nat) t v, Try.f4.params[j]? = some t → args[j]? = some v → Value.okWide Try.prog W .any base t v)
    (hW : DataW.Whole enc Try.prog Try.f4.params.toList Rows.natDivsSpec.vars false W args.toList ds gs before) (hk : Rows.uptoSmall H (ds ++ gs) = true) :
    Calls Try.prog 4 args W fun e W' => ∃ v, e = .returned v ∧ Rows.natDivsSpec.post enc Try.prog Try.f4 false true false false W args v W' := by
  have hW' := hW
  obtain ⟨p, q, hA0, hV, rfl, hfz, hnd⟩ := hW
  have hA : DataW.TrodAll enc Try.prog W 0 (fun _ => true) true Try.f4.params.toList args.toList ds p := hA0
  rw [Try.params4] at hA hval
  obtain ⟨v0, vs0, d0, ds0, p0, q0, hargs, rfl, rfl, h0, r0⟩ := trodAll_cons hA
  obtain ⟨v1, vs1, d1, ds1, p1, q1, rfl, rfl, rfl, h1, r1⟩ := trodAll_cons r0
  obtain ⟨v2, vs2, d2, ds2, p2, q2, rfl, rfl, rfl, h2, r2⟩ := trodAll_cons r1
  obtain ⟨rfl, rfl, rfl⟩ := trodAll_nil r2
  obtain rfl : args = #[v0, v1, v2] := by cases args; simp_all
  obtain ⟨rfl, rfl⟩ := trodVars_none hV
  have hb := bulk_small hk
  simp only [List.append_nil, bulk_cons, bulk_nil] at hb
  have k0 := h0
  have lt0 : ∀ x ∈ p0, x.block < W.heap.size := by obtain ⟨m, hm⟩ := k0; exact DataW.trod_lt m _ _ _ hm
  obtain ⟨x0, rd0, len0⟩ := open_u32s (hval 0 22 v0 rfl rfl) h0
  have k1 := h1
  have lt1 : ∀ x ∈ p1, x.block < W.heap.size := by obtain ⟨m, hm⟩ := k1; exact DataW.trod_lt m _ _ _ hm
  obtain ⟨x1, rd1, len1⟩ := open_u32s (hval 1 22 v1 rfl rfl) h1
  obtain ⟨a2, rfl, rfl, rfl, wf2⟩ := open_int Try.underlying32 (hval 2 32 v2 rfl rfl) h2
  clear hA0
  refine (walk rd0 (by omega) rd1 (by omega) (wf_u32 wf2)).mono fun e W' ⟨v, he, bel, hv⟩ => ?_
  subst he hv
  exact ⟨_, rfl, _, _, _, [], _, [], hW', trodAll_mk1 (shut_bool Try.underlying4 _), (trodAll_cons_mk (Below.trod laidOut (by kernel_rfl) (of_decide_eq_true (by kernel_rfl)) k0 bel lt0) (trodAll_cons_mk (Below.trod laidOut (by kernel_rfl) (of_decide_eq_true (by kernel_rfl)) k1 bel lt1) (trodAll_cons_mk (shut_int Try.underlying32 wf2) trodAll_mk0))), rfl, bel.frame _, fun h => by cases h⟩

set_option maxRecDepth 100000 in
theorem lifted (os : Os) (started : os.Started) (H : Type) (enc : TypeId × Value → H) (F : Stop.Interp) :
    ReturnsInHanded {} Try.checked os 4 .any ((Rows.OpenSpec.upto Rows.natDivsSpec).pre6 enc Try.prog Try.f4 Rows.natDivsUptoRow.domain false) (((Rows.OpenSpec.upto Rows.natDivsSpec).at F).post enc Try.prog Try.f4 false true false false) := by
  refine returnsInHanded_of_cond (C := Try.checked) (s := Rows.OpenSpec.upto Rows.natDivsSpec) (k := Rows.uptoSmall) rfl own started (by kernel_rfl) Try.func4
    (OpenSpec.witness (enc := enc) (C := Try.checked) (s := Rows.OpenSpec.upto Rows.natDivsSpec) (k := Rows.uptoSmall) rfl false ⟨#[], #[.slice none 0 0, .slice none 0 0, .int .u32 0], []⟩ 8 (by kernel_rfl) (by kernel_rfl) (by kernel_rfl)
      (x := ([.nil, .nil, .lit (.int .u32 0)], [], [])) (by kernel_rfl) rfl (by kernel_rfl)) ?_
  intro W base args ds gs before hval hW _ hk _
  exact contract H enc W base args ds gs before hval hW hk

theorem proved : Rows.NatDivsUptoSaid :=
  OpenClaim.holds_of_cond 4 Try.f4 rfl rfl rfl rfl rfl rfl rfl ⟨rfl, rfl, rfl, rfl, rfl⟩ rfl rfl rfl rfl rfl (by kernel_rfl) Try.func4 (by kernel_rfl)
    (of_decide_eq_true (by kernel_rfl)) (by unfold Func.isWrapper; first | (rw [if_pos (by decide +kernel)]; kernel_rfl) | (rw [if_neg (by decide +kernel)]; exact ⟨rfl, rfl⟩))
    (fun os started H enc _ F => lifted os started H enc F)
#print axioms proved

end Go.Proofs.Ytblbpelaleaonaa.natDivs
