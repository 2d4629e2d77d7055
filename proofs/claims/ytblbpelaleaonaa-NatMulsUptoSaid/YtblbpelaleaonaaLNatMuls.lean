/- NatMuls: products of naturals are exact. Conditions: the arguments hold together at most 1048576 values (the second form, Upto). -/
import Derived.Test.YtblbpelaleaonaaFrame
import Derived.Test.YtblbpelaleaonaaPAwake03
import Derived.Test.YtblbpelaleaonaaPRef3Mul
import Derived.Test.YtblbpelaleaonaaPRefOf
import Derived.Test.YtblbpelaleaonaaPRefTo
namespace Go.Proofs.Ytblbpelaleaonaa.natMuls
open Go.ChangeShapes Go.WideShapes Go.ChangeAt Go.RowKit Go.Att

theorem walk {w : World} {va vb : Value} {ya yb : List Nat} (ha : RdL w va ya) (hla : ya.length ≤ 1048576) (hb : RdL w vb yb) (hlb : yb.length ≤ 1048576) :
    Calls Try.prog 3 #[va, vb] w (Gives w fun v' _ => v' = .bool true) := by
  refine via fun R hR => ?_
  have HA := Lib.hid ha
  have HB := Lib.hid hb
  clear ha hb
  go_enter Try.func3, Try.ntmps3
  go_wp2_with fail
  refine (few_any 60 (by omega) HA.out (by omega)).mono ?_
  rintro e w1 ⟨v1, rfl, b1, o1⟩
  have O1 := Lib.hid o1
  clear o1
  go_wp2_with fail
  refine (few_any 60 (by omega) (HB.out.ext b1) (by omega)).mono ?_
  rintro e w2 ⟨v2, rfl, b2, o2⟩
  have O2 := Lib.hid o2
  clear o2
  have hxa : (ya.take 60).length ≤ 60 := by rw [List.length_take]; omega
  have hxb : (yb.take 60).length ≤ 60 := by rw [List.length_take]; omega
  generalize ya.take 60 = xa at *
  generalize yb.take 60 = xb at *
  have SA := Lib.hid (Nat.le_trans (blen_nv O1.out.2) (Nat.mul_le_mul_left 32 hxa))
  have SB := Lib.hid (Nat.le_trans (blen_nv O2.out.2) (Nat.mul_le_mul_left 32 hxb))
  go_wp2_with fail
  refine (awake03).mono ?_
  rintro e w3 ⟨_, rfl, b3, rfl⟩
  go_wp2_with fail
  refine (Copy_any (O1.out.rd.ext (Ext.trans b2 b3)) (by omega)).mono ?_
  rintro e w4 ⟨v4, rfl, b4, o4⟩
  have O4 := Lib.hid o4
  clear o4
  go_wp2_with fail
  refine (Copy_any (O2.out.rd.ext (Ext.trans b3 b4)) (by omega)).mono ?_
  rintro e w5 ⟨v5, rfl, b5, o5⟩
  have O5 := Lib.hid o5
  clear o5
  go_wp2_with fail
  refine (mul_any (O4.out.rd.ext b5) O5.out.rd (by omega) (by omega)).mono ?_
  rintro e w6 ⟨v6, rfl, b6, o6⟩
  have O6 := Lib.hid o6
  clear o6
  go_wp2_with fail
  refine (Of_any (O1.out.rd.ext (Ext.trans b2 (Ext.trans b3 (Ext.trans b4 (Ext.trans b5 b6))))) (by omega)).mono ?_
  rintro e w7 ⟨v7, rfl, b7, o7⟩
  have O7 := Lib.hid o7
  clear o7
  go_wp2_with fail
  refine (Of_any (O2.out.rd.ext (Ext.trans b3 (Ext.trans b4 (Ext.trans b5 (Ext.trans b6 b7))))) (by omega)).mono ?_
  rintro e w8 ⟨v8, rfl, b8, o8⟩
  have O8 := Lib.hid o8
  clear o8
  go_wp2_with fail
  refine (r3Mul_any (O7.out.rd.ext b8) O8.out.rd (by have := SA.out; omega) (by have := SB.out; omega)).mono ?_
  rintro e w9 ⟨v9, rfl, b9, o9⟩
  have O9 := Lib.hid o9
  clear o9
  rw [bval_bitsOf, bval_bitsOf] at O9
  have hl9 : Hid ((bitsOf (nv xa * nv xb)).length ≤ 3840) := by
    show _ ≤ _
    have h1 := SA.out
    have h2 := SB.out
    have h3 := mul_len (xa := bitsOf (nv xa)) (xb := bitsOf (nv xb)) (bitsOf (nv xb)).length (Nat.le_refl _)
    rw [List.take_length, bval_bitsOf, bval_bitsOf] at h3
    omega
  go_wp2_with fail
  refine (To_any O9.out.rd (by have := hl9.out; omega)).mono ?_
  rintro e w10 ⟨v10, rfl, b10, o10⟩
  have O10 := Lib.hid o10
  clear o10
  go_wp2_with fail
  refine (Same_yes (O6.out.rd.ext (Ext.trans b7 (Ext.trans b8 (Ext.trans b9 b10)))) O10.out.rd (by rw [bval_bitsOf])).mono ?_
  rintro e w11 ⟨_, rfl, b11, rfl⟩
  go_wp2
  exact hR.out _ _ (Gives.mk (Ext.trans b1 (Ext.trans b2 (Ext.trans b3 (Ext.trans b4 (Ext.trans b5 (Ext.trans b6 (Ext.trans b7 (Ext.trans b8 (Ext.trans b9 (Ext.trans b10 b11)))))))))) rfl)
theorem own : ownKnob Try.prog.godebug = none := by kernel_rfl
theorem laidOut : laidOutB Try.prog = true := by kernel_rfl

set_option maxRecDepth 100000 in
theorem contract (H : Type) (enc : TypeId × Value → H) (W : World) (base : Nat) (args : Array Value) (ds gs : List (DataW H)) (before : List MemPlace)
    (hval : ∀ (j : Nat) t v, Try.f3.params[j]? = some t → args[j]? = some v → Value.okWide Try.prog W .any base t v)
    (hW : DataW.Whole enc Try.prog Try.f3.params.toList Rows.natMulsSpec.vars false W args.toList ds gs before) (hk : Rows.uptoSmall H (ds ++ gs) = true) :
    Calls Try.prog 3 args W fun e W' => ∃ v, e = .returned v ∧ Rows.natMulsSpec.post enc Try.prog Try.f3 false true false false W args v W' := by
  have hW' := hW
  obtain ⟨p, q, hA0, hV, rfl, hfz, hnd⟩ := hW
  have hA : DataW.TrodAll enc Try.prog W 0 (fun _ => true) true Try.f3.params.toList args.toList ds p := hA0
  rw [Try.params3] at hA hval
  obtain ⟨v0, vs0, d0, ds0, p0, q0, hargs, rfl, rfl, h0, r0⟩ := trodAll_cons hA
  obtain ⟨v1, vs1, d1, ds1, p1, q1, rfl, rfl, rfl, h1, r1⟩ := trodAll_cons r0
  obtain ⟨rfl, rfl, rfl⟩ := trodAll_nil r1
  obtain rfl : args = #[v0, v1] := by cases args; simp_all
  obtain ⟨rfl, rfl⟩ := trodVars_none hV
  have hb := bulk_small hk
  simp only [List.append_nil, bulk_cons, bulk_nil] at hb
  have k0 := h0
  have lt0 : ∀ x ∈ p0, x.block < W.heap.size := by obtain ⟨m, hm⟩ := k0; exact DataW.trod_lt m _ _ _ hm
  obtain ⟨x0, rd0, len0⟩ := open_u32s (hval 0 22 v0 rfl rfl) h0
  have k1 := h1
  have lt1 : ∀ x ∈ p1, x.block < W.heap.size := by obtain ⟨m, hm⟩ := k1; exact DataW.trod_lt m _ _ _ hm
  obtain ⟨x1, rd1, len1⟩ := open_u32s (hval 1 22 v1 rfl rfl) h1
  clear hA0
  refine (walk rd0 (by omega) rd1 (by omega)).mono fun e W' ⟨v, he, bel, hv⟩ => ?_
  subst he hv
  exact ⟨_, rfl, _, _, _, [], _, [], hW', trodAll_mk1 (shut_bool Try.underlying4 _), (trodAll_cons_mk (Below.trod laidOut (by kernel_rfl) (of_decide_eq_true (by kernel_rfl)) k0 bel lt0) (trodAll_cons_mk (Below.trod laidOut (by kernel_rfl) (of_decide_eq_true (by kernel_rfl)) k1 bel lt1) trodAll_mk0)), rfl, bel.frame _, fun h => by cases h⟩

set_option maxRecDepth 100000 in
theorem lifted (os : Os) (started : os.Started) (H : Type) (enc : TypeId × Value → H) (F : Stop.Interp) :
    ReturnsInHanded {} Try.checked os 3 .any ((Rows.OpenSpec.upto Rows.natMulsSpec).pre6 enc Try.prog Try.f3 Rows.natMulsUptoRow.domain false) (((Rows.OpenSpec.upto Rows.natMulsSpec).at F).post enc Try.prog Try.f3 false true false false) := by
  refine returnsInHanded_of_cond (C := Try.checked) (s := Rows.OpenSpec.upto Rows.natMulsSpec) (k := Rows.uptoSmall) rfl own started (by kernel_rfl) Try.func3
    (OpenSpec.witness (enc := enc) (C := Try.checked) (s := Rows.OpenSpec.upto Rows.natMulsSpec) (k := Rows.uptoSmall) rfl false ⟨#[], #[.slice none 0 0, .slice none 0 0], []⟩ 8 (by kernel_rfl) (by kernel_rfl) (by kernel_rfl)
      (x := ([.nil, .nil], [], [])) (by kernel_rfl) rfl (by kernel_rfl)) ?_
  intro W base args ds gs before hval hW _ hk _
  exact contract H enc W base args ds gs before hval hW hk

theorem proved : Rows.NatMulsUptoSaid :=
  OpenClaim.holds_of_cond 3 Try.f3 rfl rfl rfl rfl rfl rfl rfl ⟨rfl, rfl, rfl, rfl, rfl⟩ rfl rfl rfl rfl rfl (by kernel_rfl) Try.func3 (by kernel_rfl)
    (of_decide_eq_true (by kernel_rfl)) (by unfold Func.isWrapper; first | (rw [if_pos (by decide +kernel)]; kernel_rfl) | (rw [if_neg (by decide +kernel)]; exact ⟨rfl, rfl⟩))
    (fun os started H enc _ F => lifted os started H enc F)
#print axioms proved

end Go.Proofs.Ytblbpelaleaonaa.natMuls
