/- LimbShifts: a natural moved by any count of bits is the exact product or quotient by that power of two; counts outside the limit are refused. Conditions: the arguments hold together at most 1048576 values (the second form, Upto). -/
import Derived.Test.YtjkebebkadpnjaaFrame
import Derived.Test.YtjkebebkadpnjaaW12
import Derived.Test.YtjkebebkadpnjaaNum5
namespace Go.Proofs.Ytjkebebkadpnjaa.limbShifts
open Go.ChangeShapes Go.WideShapes Go.ChangeAt Go.RowKit Go.Att

theorem walk {w : World} {va : Value} {xs : List Nat} (ha : RdL w va xs) (hl : xs.length ≤ 1048576) {u : Int} (hu : -9223372036854775808 ≤ u ∧ u ≤ 9223372036854775807) :
    Calls Try.prog 6 #[va, .int .i64 u] w (Gives w fun v' _ => v' = .bool true) := by
  refine via fun R hR => ?_
  have HA := Lib.hid ha
  have SA := Lib.hid (Nat.le_trans (blen_nv ha.2) (Nat.mul_le_mul_left 32 hl))
  clear ha
  obtain ⟨hu0, hu1⟩ := hu
  by_cases hbad : u < 0 ∨ 100000 < u
  · have HB := Lib.hid hbad
    go_enter Try.func6, Try.ntmps6
    rcases hbad with hbad | hbad
    all_goals
      go_wp2_with fail
      refine (Copy_any HA.out (by omega)).mono ?_
      rintro e w1 ⟨v1, rfl, b1, o1⟩
      have O1 := Lib.hid o1
      clear o1
      go_wp2_with fail
      refine (shl_no HB.out).mono ?_
      rintro e w2 ⟨rfl, rfl⟩
      go_wp2_with fail
      refine (Copy_any (HA.out.ext b1) (by omega)).mono ?_
      rintro e w2 ⟨v2, rfl, b2, o2⟩
      have O2 := Lib.hid o2
      clear o2
      go_wp2_with fail
      refine (shr_no HB.out).mono ?_
      rintro e w3 ⟨rfl, rfl⟩
      go_wp2_with fail
      refine (awake02).mono ?_
      rintro e w3 ⟨_, rfl, b3, rfl⟩
      go_wp2
      exact hR.out _ _ (Gives.mk (Ext.trans b1 (Ext.trans b2 b3)) rfl)
  · obtain ⟨n, rfl⟩ := Int.eq_ofNat_of_zero_le (show 0 ≤ u by omega)
    have hn : n ≤ 100000 := by omega
    clear hbad hu0 hu1
    go_enter Try.func6, Try.ntmps6
    go_wp2_with fail
    refine (Copy_any HA.out (by omega)).mono ?_
    rintro e w1 ⟨v1, rfl, b1, o1⟩
    have O1 := Lib.hid o1
    clear o1
    go_wp2_with fail
    refine (shl_any n hn O1.out.rd (by omega)).mono ?_
    rintro e w2 ⟨_, rfl, b2, v2, rfl, o2⟩
    have O2 := Lib.hid o2
    clear o2
    go_wp2_with fail
    refine (Copy_any (HA.out.ext (Ext.trans b1 b2)) (by omega)).mono ?_
    rintro e w3 ⟨v3, rfl, b3, o3⟩
    have O3 := Lib.hid o3
    clear o3
    go_wp2_with fail
    refine (shr_any n hn O3.out.rd (by omega)).mono ?_
    rintro e w4 ⟨_, rfl, b4, v4, rfl, o4⟩
    have O4 := Lib.hid o4
    clear o4
    go_wp2_with fail
    refine (awake02).mono ?_
    rintro e w5 ⟨_, rfl, b5, rfl⟩
    go_wp2_with fail
    refine (Of_any (HA.out.ext (Ext.trans b1 (Ext.trans b2 (Ext.trans b3 (Ext.trans b4 b5))))) (by omega)).mono ?_
    rintro e w6 ⟨v6, rfl, b6, o6⟩
    have O6 := Lib.hid o6
    clear o6
    go_wp2_with fail
    refine (rShl_any n hn O6.out.rd (by have := SA.out; omega)).mono ?_
    rintro e w7 ⟨v7, rfl, b7, o7⟩
    have O7 := Lib.hid o7
    clear o7
    rw [bval_bitsOf] at O7
    go_wp2_with fail
    refine (To_any O7.out.rd (by have := blen_shl (n := n) SA.out; omega)).mono ?_
    rintro e w8 ⟨v8, rfl, b8, o8⟩
    have O8 := Lib.hid o8
    clear o8
    go_wp2_with fail
    refine (Same_yes (O2.out.rd.ext (Ext.trans b3 (Ext.trans b4 (Ext.trans b5 (Ext.trans b6 (Ext.trans b7 b8)))))) O8.out.rd (by rw [bval_bitsOf])).mono ?_
    rintro e w9 ⟨_, rfl, b9, rfl⟩
    go_wp2_with fail
    refine (Of_any (HA.out.ext (Ext.trans b1 (Ext.trans b2 (Ext.trans b3 (Ext.trans b4 (Ext.trans b5 (Ext.trans b6 (Ext.trans b7 (Ext.trans b8 b9))))))))) (by omega)).mono ?_
    rintro e w10 ⟨v10, rfl, b10, o10⟩
    have O10 := Lib.hid o10
    clear o10
    go_wp2_with fail
    refine (rShr_any (nv xs) n hn O10.out.rd).mono ?_
    rintro e w11 ⟨v11, rfl, b11, o11⟩
    have O11 := Lib.hid o11
    clear o11
    go_wp2_with fail
    refine (To_any O11.out (by have := SA.out; have h1 := blen_mono (Nat.div_le_self (nv xs) (2 ^ n)); omega)).mono ?_
    rintro e w12 ⟨v12, rfl, b12, o12⟩
    have O12 := Lib.hid o12
    clear o12
    go_wp2_with fail
    refine (Same_yes (O4.out.rd.ext (Ext.trans b5 (Ext.trans b6 (Ext.trans b7 (Ext.trans b8 (Ext.trans b9 (Ext.trans b10 (Ext.trans b11 b12)))))))) O12.out.rd (by rw [bval_bitsOf])).mono ?_
    rintro e w13 ⟨_, rfl, b13, rfl⟩
    go_wp2
    exact hR.out _ _ (Gives.mk (Ext.trans b1 (Ext.trans b2 (Ext.trans b3 (Ext.trans b4 (Ext.trans b5 (Ext.trans b6 (Ext.trans b7 (Ext.trans b8 (Ext.trans b9 (Ext.trans b10 (Ext.trans b11 (Ext.trans b12 b13)))))))))))) rfl)
theorem own : ownKnob Try.prog.godebug = none := by kernel_rfl
theorem laidOut : laidOutB Try.prog = true := by kernel_rfl

set_option maxRecDepth 100000 in
theorem contract (H : Type) (enc : TypeId × Value → H) (W : World) (base : Nat) (args : Array Value) (ds gs : List (DataW H)) (before : List MemPlace)
    (hval : ∀ (j : Nat) t v, Try.f6.params[j]? = some t → args[j]? = some v → Value.okWide Try.prog W .any base t v)
    (hW : DataW.Whole enc Try.prog Try.f6.params.toList Rows.limbShiftsSpec.vars false W args.toList ds gs before) (hk : Rows.uptoSmall H (ds ++ gs) = true) :
    Calls Try.prog 6 args W fun e W' => ∃ v, e = .returned v ∧ Rows.limbShiftsSpec.post enc Try.prog Try.f6 false true false false W args v W' := by
  have hW' := hW
  obtain ⟨p, q, hA0, hV, rfl, hfz, hnd⟩ := hW
  have hA : DataW.TrodAll enc Try.prog W 0 (fun _ => true) true Try.f6.params.toList args.toList ds p := hA0
  rw [Try.params6] at hA hval
  obtain ⟨v0, vs0, d0, ds0, p0, q0, hargs, rfl, rfl, h0, r0⟩ := trodAll_cons hA
  obtain ⟨v1, vs1, d1, ds1, p1, q1, rfl, rfl, rfl, h1, r1⟩ := trodAll_cons r0
  obtain ⟨rfl, rfl, rfl⟩ := trodAll_nil r1
  obtain rfl : args = #[v0, v1] := by cases args; simp_all
  obtain ⟨rfl, rfl⟩ := trodVars_none hV
  have hb := bulk_small hk
  simp only [List.append_nil, bulk_cons, bulk_nil] at hb
  have k0 := h0
  have lt0 : ∀ x ∈ p0, x.block < W.heap.size := by obtain ⟨m, hm⟩ := k0; exact DataW.trod_lt m _ _ _ hm
  obtain ⟨x0, rd0, len0⟩ := open_u32s (hval 0 22 v0 rfl rfl) h0
  obtain ⟨a1, rfl, rfl, rfl, wf1⟩ := open_int Try.underlying3 (hval 1 3 v1 rfl rfl) h1
  clear hA0
  refine (walk rd0 (by omega) (wf_int wf1)).mono fun e W' ⟨v, he, bel, hv⟩ => ?_
  subst he hv
  exact ⟨_, rfl, _, _, _, [], _, [], hW', trodAll_mk1 (shut_bool Try.underlying4 _), (trodAll_cons_mk (Below.trod laidOut (by kernel_rfl) (of_decide_eq_true (by kernel_rfl)) k0 bel lt0) (trodAll_cons_mk (shut_int Try.underlying3 wf1) trodAll_mk0)), rfl, bel.frame _, fun h => by cases h⟩

set_option maxRecDepth 100000 in
theorem lifted (os : Os) (started : os.Started) (H : Type) (enc : TypeId × Value → H) (F : Stop.Interp) :
    ReturnsInHanded {} Try.checked os 6 .any ((Rows.OpenSpec.upto Rows.limbShiftsSpec).pre6 enc Try.prog Try.f6 Rows.limbShiftsUptoRow.domain false) (((Rows.OpenSpec.upto Rows.limbShiftsSpec).at F).post enc Try.prog Try.f6 false true false false) := by
  refine returnsInHanded_of_cond (C := Try.checked) (s := Rows.OpenSpec.upto Rows.limbShiftsSpec) (k := Rows.uptoSmall) rfl own started (by kernel_rfl) Try.func6
    (OpenSpec.witness (enc := enc) (C := Try.checked) (s := Rows.OpenSpec.upto Rows.limbShiftsSpec) (k := Rows.uptoSmall) rfl false ⟨#[], #[.slice none 0 0, .int .i64 0], []⟩ 8 (by kernel_rfl) (by kernel_rfl) (by kernel_rfl)
      (x := ([.nil, .lit (.int .i64 0)], [], [])) (by kernel_rfl) rfl (by kernel_rfl)) ?_
  intro W base args ds gs before hval hW _ hk _
  exact contract H enc W base args ds gs before hval hW hk

theorem proved : Rows.LimbShiftsUptoSaid :=
  OpenClaim.holds_of_cond 6 Try.f6 rfl rfl rfl rfl rfl rfl rfl ⟨rfl, rfl, rfl, rfl, rfl⟩ rfl rfl rfl rfl rfl (by kernel_rfl) Try.func6 (by kernel_rfl)
    (of_decide_eq_true (by kernel_rfl)) (by unfold Func.isWrapper; first | (rw [if_pos (by decide +kernel)]; kernel_rfl) | (rw [if_neg (by decide +kernel)]; exact ⟨rfl, rfl⟩))
    (fun os started H enc _ F => lifted os started H enc F)
#print axioms proved

end Go.Proofs.Ytjkebebkadpnjaa.limbShifts
