/- LimbSums: sums and differences of any naturals are exact, and a difference below nought is refused. Conditions: the arguments hold together at most 1048576 values (the second form, Upto). -/
import Derived.Test.YtjkebebkadpnjaaFrame
import Derived.Test.YtjkebebkadpnjaaW12
import Derived.Test.YtjkebebkadpnjaaNum5
namespace Go.Proofs.Ytjkebebkadpnjaa.limbSums
open Go.ChangeShapes Go.WideShapes Go.ChangeAt Go.RowKit Go.Att

theorem walk {w : World} {va vb : Value} {xa xb : List Nat} (ha : RdL w va xa) (hla : xa.length ≤ 1048576) (hb : RdL w vb xb) (hlb : xb.length ≤ 1048576) :
    Calls Try.prog 4 #[va, vb] w (Gives w fun v' _ => v' = .bool true) := by
  refine via fun R hR => ?_
  have HA := Lib.hid ha
  have HB := Lib.hid hb
  have sa := Lib.hid (Nat.le_trans (blen_nv ha.2) (Nat.mul_le_mul_left 32 hla))
  have sb := Lib.hid (Nat.le_trans (blen_nv hb.2) (Nat.mul_le_mul_left 32 hlb))
  clear ha hb
  go_enter Try.func4, Try.ntmps4
  go_wp2_with fail
  refine (Of_any HA.out (by omega)).mono ?_
  rintro e w1 ⟨v1, rfl, b1, o1⟩
  have O1 := Lib.hid o1
  clear o1
  go_wp2_with fail
  refine (Of_any (HB.out.ext b1) (by omega)).mono ?_
  rintro e w2 ⟨v2, rfl, b2, o2⟩
  have O2 := Lib.hid o2
  clear o2
  go_wp2_with fail
  refine (Copy_any (HA.out.ext (Ext.trans b1 b2)) (by omega)).mono ?_
  rintro e w3 ⟨v3, rfl, b3, o3⟩
  have O3 := Lib.hid o3
  clear o3
  go_wp2_with fail
  refine (Copy_any (HB.out.ext (Ext.trans b1 (Ext.trans b2 b3))) (by omega)).mono ?_
  rintro e w4 ⟨v4, rfl, b4, o4⟩
  have O4 := Lib.hid o4
  clear o4
  by_cases hlt : nv xa < nv xb
  · have HLT := Lib.hid hlt
    clear hlt
    go_wp2_with fail
    refine (sub_no (O3.out.rd.ext b4) O4.out.rd HLT.out).mono ?_
    rintro e w5 ⟨_, rfl, b5, rfl⟩
    go_wp2_with fail
    refine (awake02).mono ?_
    rintro e w6 ⟨_, rfl, b6, rfl⟩
    go_wp2_with fail
    refine (Copy_any (HA.out.ext (Ext.trans b1 (Ext.trans b2 (Ext.trans b3 (Ext.trans b4 (Ext.trans b5 b6)))))) (by omega)).mono ?_
    rintro e w7 ⟨v7, rfl, b7, o7⟩
    have O7 := Lib.hid o7
    clear o7
    go_wp2_with fail
    refine (Copy_any (HB.out.ext (Ext.trans b1 (Ext.trans b2 (Ext.trans b3 (Ext.trans b4 (Ext.trans b5 (Ext.trans b6 b7))))))) (by omega)).mono ?_
    rintro e w8 ⟨v8, rfl, b8, o8⟩
    have O8 := Lib.hid o8
    clear o8
    go_wp2_with fail
    refine (add_any (O7.out.rd.ext b8) O8.out.rd (by omega) (by omega)).mono ?_
    rintro e w9 ⟨v9, rfl, b9, o9⟩
    have O9 := Lib.hid o9
    clear o9
    go_wp2_with fail
    refine (rAdd_any (O1.out.rd.ext (Ext.trans b2 (Ext.trans b3 (Ext.trans b4 (Ext.trans b5 (Ext.trans b6 (Ext.trans b7 (Ext.trans b8 b9)))))))) (O2.out.rd.ext (Ext.trans b3 (Ext.trans b4 (Ext.trans b5 (Ext.trans b6 (Ext.trans b7 (Ext.trans b8 b9))))))) (by have := sa.out; omega) (by have := sb.out; omega)).mono ?_
    rintro e w10 ⟨v10, rfl, b10, o10⟩
    have O10 := Lib.hid o10
    clear o10
    rw [bval_bitsOf, bval_bitsOf] at O10
    have hs := Lib.hid (blen_add sa.out sb.out)
    go_wp2_with fail
    refine (To_any O10.out.rd (by have := hs.out; omega)).mono ?_
    rintro e w11 ⟨v11, rfl, b11, o11⟩
    have O11 := Lib.hid o11
    clear o11
    go_wp2_with fail
    refine (Same_yes (O9.out.rd.ext (Ext.trans b10 b11)) O11.out.rd (by rw [bval_bitsOf])).mono ?_
    rintro e w12 ⟨_, rfl, b12, rfl⟩
    go_wp2_with fail
    refine (rCmp_any (nv xa) (nv xb) (O1.out.rd.ext (Ext.trans b2 (Ext.trans b3 (Ext.trans b4 (Ext.trans b5 (Ext.trans b6 (Ext.trans b7 (Ext.trans b8 (Ext.trans b9 (Ext.trans b10 (Ext.trans b11 b12))))))))))) (O2.out.rd.ext (Ext.trans b3 (Ext.trans b4 (Ext.trans b5 (Ext.trans b6 (Ext.trans b7 (Ext.trans b8 (Ext.trans b9 (Ext.trans b10 (Ext.trans b11 b12))))))))))).mono ?_
    rintro e w13 ⟨_, rfl, b13, rfl⟩
    rw [cmpN_lt HLT.out]
    go_wp2
    exact hR.out _ _ (Gives.mk (Ext.trans b1 (Ext.trans b2 (Ext.trans b3 (Ext.trans b4 (Ext.trans b5 (Ext.trans b6 (Ext.trans b7 (Ext.trans b8 (Ext.trans b9 (Ext.trans b10 (Ext.trans b11 (Ext.trans b12 b13)))))))))))) rfl)
  · have HLE := Lib.hid (Nat.le_of_not_lt hlt)
    have HC : Hid (0 ≤ cmpN (nv xa) (nv xb)) := by
      rcases cmpN_cases (nv xa) (nv xb) with ⟨h, _⟩ | ⟨_, h⟩ | ⟨_, h⟩ <;> (show _ ≤ _; omega)
    clear hlt
    go_wp2_with fail
    refine (sub_yes (O3.out.rd.ext b4) O4.out.rd HLE.out (by omega)).mono ?_
    rintro e w5 ⟨_, rfl, b5, v5, rfl, o5⟩
    have O5 := Lib.hid o5
    clear o5
    go_wp2_with fail
    refine (awake02).mono ?_
    rintro e w6 ⟨_, rfl, b6, rfl⟩
    go_wp2_with fail
    refine (Copy_any (HA.out.ext (Ext.trans b1 (Ext.trans b2 (Ext.trans b3 (Ext.trans b4 (Ext.trans b5 b6)))))) (by omega)).mono ?_
    rintro e w7 ⟨v7, rfl, b7, o7⟩
    have O7 := Lib.hid o7
    clear o7
    go_wp2_with fail
    refine (Copy_any (HB.out.ext (Ext.trans b1 (Ext.trans b2 (Ext.trans b3 (Ext.trans b4 (Ext.trans b5 (Ext.trans b6 b7))))))) (by omega)).mono ?_
    rintro e w8 ⟨v8, rfl, b8, o8⟩
    have O8 := Lib.hid o8
    clear o8
    go_wp2_with fail
    refine (add_any (O7.out.rd.ext b8) O8.out.rd (by omega) (by omega)).mono ?_
    rintro e w9 ⟨v9, rfl, b9, o9⟩
    have O9 := Lib.hid o9
    clear o9
    go_wp2_with fail
    refine (rAdd_any (O1.out.rd.ext (Ext.trans b2 (Ext.trans b3 (Ext.trans b4 (Ext.trans b5 (Ext.trans b6 (Ext.trans b7 (Ext.trans b8 b9)))))))) (O2.out.rd.ext (Ext.trans b3 (Ext.trans b4 (Ext.trans b5 (Ext.trans b6 (Ext.trans b7 (Ext.trans b8 b9))))))) (by have := sa.out; omega) (by have := sb.out; omega)).mono ?_
    rintro e w10 ⟨v10, rfl, b10, o10⟩
    have O10 := Lib.hid o10
    clear o10
    rw [bval_bitsOf, bval_bitsOf] at O10
    have hs := Lib.hid (blen_add sa.out sb.out)
    go_wp2_with fail
    refine (To_any O10.out.rd (by have := hs.out; omega)).mono ?_
    rintro e w11 ⟨v11, rfl, b11, o11⟩
    have O11 := Lib.hid o11
    clear o11
    go_wp2_with fail
    refine (Same_yes (O9.out.rd.ext (Ext.trans b10 b11)) O11.out.rd (by rw [bval_bitsOf])).mono ?_
    rintro e w12 ⟨_, rfl, b12, rfl⟩
    go_wp2_with fail
    refine (rCmp_any (nv xa) (nv xb) (O1.out.rd.ext (Ext.trans b2 (Ext.trans b3 (Ext.trans b4 (Ext.trans b5 (Ext.trans b6 (Ext.trans b7 (Ext.trans b8 (Ext.trans b9 (Ext.trans b10 (Ext.trans b11 b12))))))))))) (O2.out.rd.ext (Ext.trans b3 (Ext.trans b4 (Ext.trans b5 (Ext.trans b6 (Ext.trans b7 (Ext.trans b8 (Ext.trans b9 (Ext.trans b10 (Ext.trans b11 b12))))))))))).mono ?_
    rintro e w13 ⟨_, rfl, b13, rfl⟩
    have hc := HC.out
    generalize cmpN (nv xa) (nv xb) = cc at *
    go_wp2_with fail
    refine (rSub_any (O1.out.rd.ext (Ext.trans b2 (Ext.trans b3 (Ext.trans b4 (Ext.trans b5 (Ext.trans b6 (Ext.trans b7 (Ext.trans b8 (Ext.trans b9 (Ext.trans b10 (Ext.trans b11 (Ext.trans b12 b13)))))))))))) (O2.out.rd.ext (Ext.trans b3 (Ext.trans b4 (Ext.trans b5 (Ext.trans b6 (Ext.trans b7 (Ext.trans b8 (Ext.trans b9 (Ext.trans b10 (Ext.trans b11 (Ext.trans b12 b13))))))))))) (by rw [bval_bitsOf, bval_bitsOf]; exact HLE.out) (by have := sa.out; omega)).mono ?_
    rintro e w14 ⟨v14, rfl, b14, o14⟩
    have O14 := Lib.hid o14
    clear o14
    rw [bval_bitsOf, bval_bitsOf] at O14
    go_wp2_with fail
    refine (To_any O14.out.rd (by have := sa.out; have h1 := blen_mono (Nat.sub_le (nv xa) (nv xb)); omega)).mono ?_
    rintro e w15 ⟨v15, rfl, b15, o15⟩
    have O15 := Lib.hid o15
    clear o15
    go_wp2_with fail
    refine (Same_yes (O5.out.rd.ext (Ext.trans b6 (Ext.trans b7 (Ext.trans b8 (Ext.trans b9 (Ext.trans b10 (Ext.trans b11 (Ext.trans b12 (Ext.trans b13 (Ext.trans b14 b15)))))))))) O15.out.rd (by rw [bval_bitsOf])).mono ?_
    rintro e w16 ⟨_, rfl, b16, rfl⟩
    go_wp2
    exact hR.out _ _ (Gives.mk (Ext.trans b1 (Ext.trans b2 (Ext.trans b3 (Ext.trans b4 (Ext.trans b5 (Ext.trans b6 (Ext.trans b7 (Ext.trans b8 (Ext.trans b9 (Ext.trans b10 (Ext.trans b11 (Ext.trans b12 (Ext.trans b13 (Ext.trans b14 (Ext.trans b15 b16))))))))))))))) rfl)
theorem own : ownKnob Try.prog.godebug = none := by kernel_rfl
theorem laidOut : laidOutB Try.prog = true := by kernel_rfl

set_option maxRecDepth 100000 in
theorem contract (H : Type) (enc : TypeId × Value → H) (W : World) (base : Nat) (args : Array Value) (ds gs : List (DataW H)) (before : List MemPlace)
    (hval : ∀ (j : Nat) t v, Try.f4.params[j]? = some t → args[j]? = some v → Value.okWide Try.prog W .any base t v)
    (hW : DataW.Whole enc Try.prog Try.f4.params.toList Rows.limbSumsSpec.vars false W args.toList ds gs before) (hk : Rows.uptoSmall H (ds ++ gs) = true) :
    Calls Try.prog 4 args W fun e W' => ∃ v, e = .returned v ∧ Rows.limbSumsSpec.post enc Try.prog Try.f4 false true false false W args v W' := by
  have hW' := hW
  obtain ⟨p, q, hA0, hV, rfl, hfz, hnd⟩ := hW
  have hA : DataW.TrodAll enc Try.prog W 0 (fun _ => true) true Try.f4.params.toList args.toList ds p := hA0
  rw [Try.params4] at hA hval
  obtain ⟨v0, vs0, d0, ds0, p0, q0, hargs, rfl, rfl, h0, r0⟩ := trodAll_cons hA
  obtain ⟨v1, vs1, d1, ds1, p1, q1, rfl, rfl, rfl, h1, r1⟩ := trodAll_cons r0
  obtain ⟨rfl, rfl, rfl⟩ := trodAll_nil r1
  obtain rfl : args = #[v0, v1] := by cases args; simp_all
  obtain ⟨rfl, rfl⟩ := trodVars_none hV
  have hb := bulk_small hk
  simp only [List.append_nil, bulk_cons, bulk_nil] at hb
  have k0 := h0
  have lt0 : ∀ x ∈ p0, x.block < W.heap.size := by obtain ⟨m, hm⟩ := k0; exact DataW.trod_lt m _ _ _ hm
  obtain ⟨x0, rd0, len0⟩ := open_u32s (hval 0 22 v0 rfl rfl) h0
  have k1 := h1
  have lt1 : ∀ x ∈ p1, x.block < W.heap.size := by obtain ⟨m, hm⟩ := k1; exact DataW.trod_lt m _ _ _ hm
  obtain ⟨x1, rd1, len1⟩ := open_u32s (hval 1 22 v1 rfl rfl) h1
  clear hA0
  refine (walk rd0 (by omega) rd1 (by omega)).mono fun e W' ⟨v, he, bel, hv⟩ => ?_
  subst he hv
  exact ⟨_, rfl, _, _, _, [], _, [], hW', trodAll_mk1 (shut_bool Try.underlying4 _), (trodAll_cons_mk (Below.trod laidOut (by kernel_rfl) (of_decide_eq_true (by kernel_rfl)) k0 bel lt0) (trodAll_cons_mk (Below.trod laidOut (by kernel_rfl) (of_decide_eq_true (by kernel_rfl)) k1 bel lt1) trodAll_mk0)), rfl, bel.frame _, fun h => by cases h⟩

set_option maxRecDepth 100000 in
theorem lifted (os : Os) (started : os.Started) (H : Type) (enc : TypeId × Value → H) (F : Stop.Interp) :
    ReturnsInHanded {} Try.checked os 4 .any ((Rows.OpenSpec.upto Rows.limbSumsSpec).pre6 enc Try.prog Try.f4 Rows.limbSumsUptoRow.domain false) (((Rows.OpenSpec.upto Rows.limbSumsSpec).at F).post enc Try.prog Try.f4 false true false false) := by
  refine returnsInHanded_of_cond (C := Try.checked) (s := Rows.OpenSpec.upto Rows.limbSumsSpec) (k := Rows.uptoSmall) rfl own started (by kernel_rfl) Try.func4
    (OpenSpec.witness (enc := enc) (C := Try.checked) (s := Rows.OpenSpec.upto Rows.limbSumsSpec) (k := Rows.uptoSmall) rfl false ⟨#[], #[.slice none 0 0, .slice none 0 0], []⟩ 8 (by kernel_rfl) (by kernel_rfl) (by kernel_rfl)
      (x := ([.nil, .nil], [], [])) (by kernel_rfl) rfl (by kernel_rfl)) ?_
  intro W base args ds gs before hval hW _ hk _
  exact contract H enc W base args ds gs before hval hW hk

theorem proved : Rows.LimbSumsUptoSaid :=
  OpenClaim.holds_of_cond 4 Try.f4 rfl rfl rfl rfl rfl rfl rfl ⟨rfl, rfl, rfl, rfl, rfl⟩ rfl rfl rfl rfl rfl (by kernel_rfl) Try.func4 (by kernel_rfl)
    (of_decide_eq_true (by kernel_rfl)) (by unfold Func.isWrapper; first | (rw [if_pos (by decide +kernel)]; kernel_rfl) | (rw [if_neg (by decide +kernel)]; exact ⟨rfl, rfl⟩))
    (fun os started H enc _ F => lifted os started H enc F)
#print axioms proved

end Go.Proofs.Ytjkebebkadpnjaa.limbSums
