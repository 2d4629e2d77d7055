/- NatGcds: greatest common divisors are right, and times the least common multiple they make the product. Conditions: the arguments hold together at most 1048576 values (the second form, Upto). -/
import Derived.Test.YtblbpelaleaonaaFrame
import Derived.Test.YtblbpelaleaonaaPAwake03
import Derived.Test.YtblbpelaleaonaaPNatGcd
import Derived.Test.YtblbpelaleaonaaPRef3Gcd
import Derived.Test.YtblbpelaleaonaaPRefOf
import Derived.Test.YtblbpelaleaonaaPRefTo
import Derived.Test.YtblbpelaleaonaaPRefSame
import Derived.Test.YtblbpelaleaonaaPLimbCmp
import Derived.Test.YtblbpelaleaonaaNumM
namespace Go.Proofs.Ytblbpelaleaonaa.natGcds
open Go.ChangeShapes Go.WideShapes Go.ChangeAt Go.RowKit Go.Att

theorem gcd_bits (a b : Nat) (h : (bitsOf a).length ≤ 960) (h' : (bitsOf b).length ≤ 960) : (bitsOf (Nat.gcd a b)).length ≤ 960 := by
  by_cases hb : b = 0
  · subst hb; rwa [Nat.gcd_zero_right]
  · exact Nat.le_trans (blen_mono (Nat.gcd_le_right _ (by omega))) h'
theorem gcd_limbs (a b : Nat) (h : (limbs a).length ≤ 30) (h' : (limbs b).length ≤ 30) : (limbs (Nat.gcd a b)).length ≤ 30 := by
  by_cases hb : b = 0
  · subst hb; rwa [Nat.gcd_zero_right]
  · exact Nat.le_trans (limbs_mono (Nat.gcd_le_right _ (by omega))) h'
theorem gcd_lcm (a b : Nat) : Nat.gcd a b * (a / Nat.gcd a b * b) = a * b := by
  rw [← Nat.mul_assoc, Nat.mul_div_cancel' (Nat.gcd_dvd_left a b)]

set_option maxRecDepth 100000 in
set_option maxHeartbeats 4000000 in
theorem walk {w : World} {va vb : Value} {xa xb : List Nat} (ha : RdL w va xa) (hla : xa.length ≤ 1048576) (hb : RdL w vb xb) (hlb : xb.length ≤ 1048576) :
    Calls Try.prog 5 #[va, vb] w (Gives w fun v' _ => v' = .bool true) := by
  refine via fun R hR => ?_
  have HA := Lib.hid ha
  have HB := Lib.hid hb
  have ta : (xa.take 30).length ≤ 30 := by simp; omega
  have tb : (xb.take 30).length ≤ 30 := by simp; omega
  have fa : Fit W32 (xa.take 30) := fun x hx => ha.2 x (List.mem_of_mem_take hx)
  have fb : Fit W32 (xb.take 30) := fun x hx => hb.2 x (List.mem_of_mem_take hx)
  generalize hxa : xa.take 30 = ya at *
  generalize hxb : xb.take 30 = yb at *
  have BA : (bitsOf (nv ya)).length ≤ 960 := Nat.le_trans (blen_nv fa) (by omega)
  have BB : (bitsOf (nv yb)).length ≤ 960 := Nat.le_trans (blen_nv fb) (by omega)
  have LA := Nat.le_trans (limbs_len_le fa) ta
  have LB := Nat.le_trans (limbs_len_le fb) tb
  have BG := gcd_bits _ _ BA BB
  have LG := gcd_limbs _ _ LA LB
  have LQ := Nat.le_trans (limbs_mono (Nat.div_le_self (nv ya) (Nat.gcd (nv ya) (nv yb)))) LA
  have LL := limbs_mul LQ LB
  have ZL : Hid (nv ya / Nat.gcd (nv ya) (nv yb) * nv yb = 0 ↔ nv ya = 0 ∨ nv yb = 0) := by
    show _ ↔ _
    have hgl := gcd_lcm (nv ya) (nv yb)
    constructor
    · intro h
      rw [h, Nat.mul_zero] at hgl
      exact Nat.mul_eq_zero.1 hgl.symm
    · rintro (h | h)
      · rw [h, Nat.zero_div, Nat.zero_mul]
      · rw [h, Nat.mul_zero]
  have EC : Hid (cmpN (nv (limbs (nv (limbs (Nat.gcd (nv ya) (nv yb))) * nv (limbs (nv ya / Nat.gcd (nv ya) (nv yb) * nv yb))))) (nv (limbs (nv ya * nv yb))) = 0) := by
    show _ = _
    rw [nv_limbs, nv_limbs, nv_limbs, nv_limbs, gcd_lcm, cmpN_eq]
  have BZ : ∀ n, Hid (0 < (bitsOf n).length ↔ n ≠ 0) := fun n => bitsOf_pos
  clear ha hb fa fb LA LB LQ
  go_enter Try.func5, Try.ntmps5
  go_wp2_with fail
  refine (few_any 30 (by omega) HA.out (by omega)).mono ?_
  rintro e w1 ⟨v1, rfl, b1, o1⟩
  have O1 := Lib.hid o1
  clear o1
  go_wp2_with fail
  refine (few_any 30 (by omega) (HB.out.ext b1) (by omega)).mono ?_
  rintro e w2 ⟨v2, rfl, b2, o2⟩
  have O2 := Lib.hid o2
  clear o2
  rw [hxa] at O1
  rw [hxb] at O2
  clear hxa hxb
  go_wp2_with fail
  refine (Copy_any (O1.out.rd.ext b2) (by omega)).mono ?_
  rintro e w3 ⟨v3, rfl, b3, o3⟩
  have O3 := Lib.hid o3
  clear o3
  go_wp2_with fail
  refine (Copy_any (O2.out.rd.ext b3) (by omega)).mono ?_
  rintro e w4 ⟨v4, rfl, b4, o4⟩
  have O4 := Lib.hid o4
  clear o4
  go_wp2_with fail
  refine (gcd_any (O3.out.rd.ext b4) O4.out.rd (by omega) (by omega)).mono ?_
  rintro e w5 ⟨v5, rfl, b5, o5⟩
  have O5 := Lib.hid o5
  clear o5
  go_wp2_with fail
  refine (Copy_any (O1.out.rd.ext (Ext.trans b2 (Ext.trans b3 (Ext.trans b4 b5)))) (by omega)).mono ?_
  rintro e w6 ⟨v6, rfl, b6, o6⟩
  have O6 := Lib.hid o6
  clear o6
  go_wp2_with fail
  refine (Copy_any (O2.out.rd.ext (Ext.trans b3 (Ext.trans b4 (Ext.trans b5 b6)))) (by omega)).mono ?_
  rintro e w7 ⟨v7, rfl, b7, o7⟩
  have O7 := Lib.hid o7
  clear o7
  go_wp2_with fail
  refine (lcm_any (O6.out.rd.ext b7) O7.out.rd (by omega) (by omega)).mono ?_
  rintro e w8 ⟨v8, rfl, b8, o8⟩
  have O8 := Lib.hid o8
  clear o8
  go_wp2_with fail
  refine (Of_any (O1.out.rd.ext (Ext.trans b2 (Ext.trans b3 (Ext.trans b4 (Ext.trans b5 (Ext.trans b6 (Ext.trans b7 b8))))))) (by omega)).mono ?_
  rintro e w9 ⟨v9, rfl, b9, o9⟩
  have O9 := Lib.hid o9
  clear o9
  go_wp2_with fail
  refine (Of_any (O2.out.rd.ext (Ext.trans b3 (Ext.trans b4 (Ext.trans b5 (Ext.trans b6 (Ext.trans b7 (Ext.trans b8 b9))))))) (by omega)).mono ?_
  rintro e w10 ⟨v10, rfl, b10, o10⟩
  have O10 := Lib.hid o10
  clear o10
  go_wp2_with fail
  refine (awake03).mono ?_
  rintro e w11 ⟨_, rfl, b11, rfl⟩
  go_wp2_with fail
  refine (r3Gcd_any (O9.out.rd.ext (Ext.trans b10 b11)) (O10.out.rd.ext b11) (by omega) (by omega)).mono ?_
  rintro e w12 ⟨v12, rfl, b12, o12⟩
  have O12 := Lib.hid o12
  clear o12
  go_wp2_with fail
  refine (To_any O12.out (by omega)).mono ?_
  rintro e w13 ⟨v13, rfl, b13, o13⟩
  have O13 := Lib.hid o13
  clear o13
  go_wp2_with fail
  refine (Same_yes (O5.out.rd.ext (Ext.trans b6 (Ext.trans b7 (Ext.trans b8 (Ext.trans b9 (Ext.trans b10 (Ext.trans b11 (Ext.trans b12 b13)))))))) O13.out.rd (by rw [bval_bitsOf])).mono ?_
  rintro e w14 ⟨_, rfl, b14, rfl⟩
  obtain ⟨a9, c9, rfl, h91, h92, _, _⟩ := O9.out.rd.shape
  obtain ⟨a10, c10, rfl, h101, h102, _, _⟩ := O10.out.rd.shape
  clear O9 O10
  by_cases hz : nv ya = 0 ∨ nv yb = 0
  · have hl0 : limbs (nv ya / Nat.gcd (nv ya) (nv yb) * nv yb) = [] := by rw [ZL.out.2 hz]; exact List.length_eq_zero_iff.1 (by have := (limbs_pos (y := 0)); omega)
    rw [hl0] at O8
    obtain ⟨a8, c8, rfl, _, _, _, _⟩ := O8.out.rd.1.shape
    by_cases hz1 : nv ya = 0
    · have e1 : (((bitsOf (nv ya)).length : Int) == 0) = true := beqT (by have := (BZ (nv ya)).out; omega)
      clear hz hl0 hz1 O8
      go_wp2_with fail
      exact hR.out _ _ (Gives.mk (Ext.trans b1 (Ext.trans b2 (Ext.trans b3 (Ext.trans b4 (Ext.trans b5 (Ext.trans b6 (Ext.trans b7 (Ext.trans b8 (Ext.trans b9 (Ext.trans b10 (Ext.trans b11 (Ext.trans b12 (Ext.trans b13 b14))))))))))))) rfl)
    · have e1 : (((bitsOf (nv ya)).length : Int) == 0) = false := beqF (by have := (BZ (nv ya)).out; omega)
      have e2 : (((bitsOf (nv yb)).length : Int) == 0) = true := beqT (by have := (BZ (nv yb)).out; omega)
      clear hz hl0 hz1 O8
      go_wp2_with fail
      exact hR.out _ _ (Gives.mk (Ext.trans b1 (Ext.trans b2 (Ext.trans b3 (Ext.trans b4 (Ext.trans b5 (Ext.trans b6 (Ext.trans b7 (Ext.trans b8 (Ext.trans b9 (Ext.trans b10 (Ext.trans b11 (Ext.trans b12 (Ext.trans b13 b14))))))))))))) rfl)
  · have e1 : (((bitsOf (nv ya)).length : Int) == 0) = false := beqF (by have := (BZ (nv ya)).out; omega)
    have e2 : (((bitsOf (nv yb)).length : Int) == 0) = false := beqF (by have := (BZ (nv yb)).out; omega)
    have hz2 : nv ya / Nat.gcd (nv ya) (nv yb) * nv yb ≠ 0 := fun h => hz (ZL.out.1 h)
    have hl := limbs_pos.2 hz2
    have htop := (blen_limbs _ hz2).2.1
    clear hz hz2
    go_wp2_with fail
    refine (Copy_any (O5.out.rd.ext (Ext.trans b6 (Ext.trans b7 (Ext.trans b8 (Ext.trans b9 (Ext.trans b10 (Ext.trans b11 (Ext.trans b12 (Ext.trans b13 b14))))))))) (by omega)).mono ?_
    rintro e w15 ⟨v15, rfl, b15, o15⟩
    have O15 := Lib.hid o15
    clear o15
    go_wp2_with fail
    refine (Copy_any (O8.out.rd.ext (Ext.trans b9 (Ext.trans b10 (Ext.trans b11 (Ext.trans b12 (Ext.trans b13 (Ext.trans b14 b15))))))) (by omega)).mono ?_
    rintro e w16 ⟨v16, rfl, b16, o16⟩
    have O16 := Lib.hid o16
    clear o16
    go_wp2_with fail
    refine (mul_any (O15.out.rd.ext b16) O16.out.rd (by omega) (by omega)).mono ?_
    rintro e w17 ⟨v17, rfl, b17, o17⟩
    have O17 := Lib.hid o17
    clear o17
    go_wp2_with fail
    refine (Copy_any (O1.out.rd.ext (Ext.trans b2 (Ext.trans b3 (Ext.trans b4 (Ext.trans b5 (Ext.trans b6 (Ext.trans b7 (Ext.trans b8 (Ext.trans b9 (Ext.trans b10 (Ext.trans b11 (Ext.trans b12 (Ext.trans b13 (Ext.trans b14 (Ext.trans b15 (Ext.trans b16 b17)))))))))))))))) (by omega)).mono ?_
    rintro e w18 ⟨v18, rfl, b18, o18⟩
    have O18 := Lib.hid o18
    clear o18
    go_wp2_with fail
    refine (Copy_any (O2.out.rd.ext (Ext.trans b3 (Ext.trans b4 (Ext.trans b5 (Ext.trans b6 (Ext.trans b7 (Ext.trans b8 (Ext.trans b9 (Ext.trans b10 (Ext.trans b11 (Ext.trans b12 (Ext.trans b13 (Ext.trans b14 (Ext.trans b15 (Ext.trans b16 (Ext.trans b17 b18)))))))))))))))) (by omega)).mono ?_
    rintro e w19 ⟨v19, rfl, b19, o19⟩
    have O19 := Lib.hid o19
    clear o19
    go_wp2_with fail
    refine (mul_any (O18.out.rd.ext b19) O19.out.rd (by omega) (by omega)).mono ?_
    rintro e w20 ⟨v20, rfl, b20, o20⟩
    have O20 := Lib.hid o20
    clear o20
    go_wp2_with fail
    refine (cmp_any (O17.out.rd.ext (Ext.trans b18 (Ext.trans b19 b20))) O20.out.rd).mono ?_
    rintro e w21 ⟨_, rfl, b21, rfl⟩
    rw [EC.out]
    obtain ⟨a8, c8, rfl, _, h82, _, hcell⟩ := (O8.out.rd.ext (Ext.trans b9 (Ext.trans b10 (Ext.trans b11 (Ext.trans b12 (Ext.trans b13 (Ext.trans b14 (Ext.trans b15 (Ext.trans b16 (Ext.trans b17 (Ext.trans b18 (Ext.trans b19 (Ext.trans b20 b21))))))))))))).1.shape
    unfold maxLen at h82
    obtain ⟨g8, f8, rfl, hcl⟩ := hcell ((limbs (nv ya / Nat.gcd (nv ya) (nv yb) * nv yb)).length - 1) (by omega)
    clear hcell
    have e3 : (((nth (limbs (nv ya / Nat.gcd (nv ya) (nv yb) * nv yb)) ((limbs (nv ya / Nat.gcd (nv ya) (nv yb) * nv yb)).length - 1) : Nat) : Int) != 0) = true := bne_iff_ne.2 (by omega)
    go_wp2_with fail
    exact hR.out _ _ (Gives.mk (Ext.trans b1 (Ext.trans b2 (Ext.trans b3 (Ext.trans b4 (Ext.trans b5 (Ext.trans b6 (Ext.trans b7 (Ext.trans b8 (Ext.trans b9 (Ext.trans b10 (Ext.trans b11 (Ext.trans b12 (Ext.trans b13 (Ext.trans b14 (Ext.trans b15 (Ext.trans b16 (Ext.trans b17 (Ext.trans b18 (Ext.trans b19 (Ext.trans b20 b21)))))))))))))))))))) rfl)
theorem own : ownKnob Try.prog.godebug = none := by kernel_rfl
theorem laidOut : laidOutB Try.prog = true := by kernel_rfl

set_option maxRecDepth 100000 in
theorem contract (H : Type) (enc : TypeId × Value → H) (W : World) (base : Nat) (args : Array Value) (ds gs : List (DataW H)) (before : List MemPlace)
    (hval : ∀ (j : Nat) t v, Try.f5.params[j]? = some t → args[j]? = some v → Value.okWide Try.prog W .any base t v)
    (hW : DataW.Whole enc Try.prog Try.f5.params.toList Rows.natGcdsSpec.vars false W args.toList ds gs before) (hk : Rows.uptoSmall H (ds ++ gs) = true) :
    Calls Try.prog 5 args W fun e W' => ∃ v, e = .returned v ∧ Rows.natGcdsSpec.post enc Try.prog Try.f5 false true false false W args v W' := by
  have hW' := hW
  obtain ⟨p, q, hA0, hV, rfl, hfz, hnd⟩ := hW
  have hA : DataW.TrodAll enc Try.prog W 0 (fun _ => true) true Try.f5.params.toList args.toList ds p := hA0
  rw [Try.params5] at hA hval
  obtain ⟨v0, vs0, d0, ds0, p0, q0, hargs, rfl, rfl, h0, r0⟩ := trodAll_cons hA
  obtain ⟨v1, vs1, d1, ds1, p1, q1, rfl, rfl, rfl, h1, r1⟩ := trodAll_cons r0
  obtain ⟨rfl, rfl, rfl⟩ := trodAll_nil r1
  obtain rfl : args = #[v0, v1] := by cases args; simp_all
  obtain ⟨rfl, rfl⟩ := trodVars_none hV
  have hb := bulk_small hk
  simp only [List.append_nil, bulk_cons, bulk_nil] at hb
  have k0 := h0
  have lt0 : ∀ x ∈ p0, x.block < W.heap.size := by obtain ⟨m, hm⟩ := k0; exact DataW.trod_lt m _ _ _ hm
  obtain ⟨x0, rd0, len0⟩ := open_u32s (hval 0 22 v0 rfl rfl) h0
  have k1 := h1
  have lt1 : ∀ x ∈ p1, x.block < W.heap.size := by obtain ⟨m, hm⟩ := k1; exact DataW.trod_lt m _ _ _ hm
  obtain ⟨x1, rd1, len1⟩ := open_u32s (hval 1 22 v1 rfl rfl) h1
  clear hA0
  refine (walk rd0 (by omega) rd1 (by omega)).mono fun e W' ⟨v, he, bel, hv⟩ => ?_
  subst he hv
  exact ⟨_, rfl, _, _, _, [], _, [], hW', trodAll_mk1 (shut_bool Try.underlying4 _), (trodAll_cons_mk (Below.trod laidOut (by kernel_rfl) (of_decide_eq_true (by kernel_rfl)) k0 bel lt0) (trodAll_cons_mk (Below.trod laidOut (by kernel_rfl) (of_decide_eq_true (by kernel_rfl)) k1 bel lt1) trodAll_mk0)), rfl, bel.frame _, fun h => by cases h⟩

set_option maxRecDepth 100000 in
theorem lifted (os : Os) (started : os.Started) (H : Type) (enc : TypeId × Value → H) (F : Stop.Interp) :
    ReturnsInHanded {} Try.checked os 5 .any ((Rows.OpenSpec.upto Rows.natGcdsSpec).pre6 enc Try.prog Try.f5 Rows.natGcdsUptoRow.domain false) (((Rows.OpenSpec.upto Rows.natGcdsSpec).at F).post enc Try.prog Try.f5 false true false false) := by
  refine returnsInHanded_of_cond (C := Try.checked) (s := Rows.OpenSpec.upto Rows.natGcdsSpec) (k := Rows.uptoSmall) rfl own started (by kernel_rfl) Try.func5
    (OpenSpec.witness (enc := enc) (C := Try.checked) (s := Rows.OpenSpec.upto Rows.natGcdsSpec) (k := Rows.uptoSmall) rfl false ⟨#[], #[.slice none 0 0, .slice none 0 0], []⟩ 8 (by kernel_rfl) (by kernel_rfl) (by kernel_rfl)
      (x := ([.nil, .nil], [], [])) (by kernel_rfl) rfl (by kernel_rfl)) ?_
  intro W base args ds gs before hval hW _ hk _
  exact contract H enc W base args ds gs before hval hW hk

theorem proved : Rows.NatGcdsUptoSaid :=
  OpenClaim.holds_of_cond 5 Try.f5 rfl rfl rfl rfl rfl rfl rfl ⟨rfl, rfl, rfl, rfl, rfl⟩ rfl rfl rfl rfl rfl (by kernel_rfl) Try.func5 (by kernel_rfl)
    (of_decide_eq_true (by kernel_rfl)) (by unfold Func.isWrapper; first | (rw [if_pos (by decide +kernel)]; kernel_rfl) | (rw [if_neg (by decide +kernel)]; exact ⟨rfl, rfl⟩))
    (fun os started H enc _ F => lifted os started H enc F)
#print axioms proved

end Go.Proofs.Ytblbpelaleaonaa.natGcds
