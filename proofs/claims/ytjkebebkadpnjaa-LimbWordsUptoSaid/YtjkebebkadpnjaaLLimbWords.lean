/- LimbWords: naturals and 64-bit words are turned into one another exactly, and it is told whether a natural fits. Conditions: the arguments hold together at most 1048576 values (the second form, Upto). -/
import Derived.Test.YtjkebebkadpnjaaFrame
import Derived.Test.YtjkebebkadpnjaaW12
namespace Go.Proofs.Ytjkebebkadpnjaa.limbWords
open Go.ChangeShapes Go.WideShapes Go.ChangeAt Go.RowKit Go.Att

theorem walk {w : World} {va : Value} {xs : List Nat} (ha : RdL w va xs) (hl : xs.length ≤ 1048576) {u : Int} (hu : 0 ≤ u ∧ u ≤ 18446744073709551615) :
    Calls Try.prog 3 #[va, .int .u64 u] w (Gives w fun v' _ => v' = .bool true) := by
  refine via fun R hR => ?_
  have HA := Lib.hid ha
  clear ha
  obtain ⟨hu0, hu1⟩ := hu
  obtain ⟨n, rfl⟩ := Int.eq_ofNat_of_zero_le hu0
  have hn : n ≤ 18446744073709551615 := by omega
  have HL : Hid ((limbs n).length ≤ 2) := (limbs_len n 2).2 (by have : W32 ^ 2 = 18446744073709551616 := rfl; omega)
  have E1 : Hid (nv (limbs n) % W64 = n) := by show _ = _; rw [nv_limbs]; exact Nat.mod_eq_of_lt (by unfold W64; omega)
  have E2 : Hid (decide (nv (limbs n) < W64) = true) := by show _ = _; rw [nv_limbs]; exact decide_eq_true (by unfold W64; omega)
  have E3 : Hid (decide ((((bitsOf (nv xs)).length : Nat) : Int) ≤ 64) = decide (nv xs < W64)) := by
    show _ = _
    have h := bitsOf_len (nv xs) 64
    rw [decide_eq_decide, show W64 = 2 ^ 64 from rfl, ← h]
    omega
  go_enter Try.func3, Try.ntmps3
  go_wp2_with fail
  refine (word_any n hn).mono ?_
  rintro e w1 ⟨v1, rfl, b1, o1⟩
  have O1 := Lib.hid o1
  clear o1
  go_wp2_with fail
  refine (Copy_any (HA.out.ext b1) (by omega)).mono ?_
  rintro e w2 ⟨v2, rfl, b2, o2⟩
  have O2 := Lib.hid o2
  clear o2
  go_wp2_with fail
  refine (low_any O2.out.rd).mono ?_
  rintro e w3 ⟨_, rfl, b3, rfl⟩
  go_wp2_with fail
  refine (Copy_any (O1.out.rd.ext (Ext.trans b2 b3)) (by have := HL.out; omega)).mono ?_
  rintro e w4 ⟨v4, rfl, b4, o4⟩
  have O4 := Lib.hid o4
  clear o4
  go_wp2_with fail
  refine (low_any O4.out.rd).mono ?_
  rintro e w5 ⟨_, rfl, b5, rfl⟩
  rw [E1.out, E2.out]
  go_wp2_with fail
  refine (awake02).mono ?_
  rintro e w6 ⟨_, rfl, b6, rfl⟩
  go_wp2_with fail
  refine (rWord_any n hn).mono ?_
  rintro e w7 ⟨v7, rfl, b7, o7⟩
  have O7 := Lib.hid o7
  clear o7
  go_wp2_with fail
  refine (To_any O7.out.rd (by have := (bitsOf_len n 64).2 (by omega); omega)).mono ?_
  rintro e w8 ⟨v8, rfl, b8, o8⟩
  have O8 := Lib.hid o8
  clear o8
  go_wp2_with fail
  refine (Same_yes (O1.out.rd.ext (Ext.trans b2 (Ext.trans b3 (Ext.trans b4 (Ext.trans b5 (Ext.trans b6 (Ext.trans b7 b8))))))) O8.out.rd (by rw [bval_bitsOf])).mono ?_
  rintro e w9 ⟨_, rfl, b9, rfl⟩
  go_wp2_with fail
  refine (Of_any (HA.out.ext (Ext.trans b1 (Ext.trans b2 (Ext.trans b3 (Ext.trans b4 (Ext.trans b5 (Ext.trans b6 (Ext.trans b7 (Ext.trans b8 b9))))))))) (by omega)).mono ?_
  rintro e w10 ⟨v10, rfl, b10, o10⟩
  have O10 := Lib.hid o10
  clear o10
  go_wp2_with fail
  refine (rLow_any O10.out.rd).mono ?_
  rintro e w11 ⟨_, rfl, b11, rfl⟩
  rw [bval_bitsOf]
  go_wp2_with fail
  refine (Of_any (HA.out.ext (Ext.trans b1 (Ext.trans b2 (Ext.trans b3 (Ext.trans b4 (Ext.trans b5 (Ext.trans b6 (Ext.trans b7 (Ext.trans b8 (Ext.trans b9 (Ext.trans b10 b11))))))))))) (by omega)).mono ?_
  rintro e w12 ⟨v12, rfl, b12, o12⟩
  have O12 := Lib.hid o12
  clear o12
  obtain ⟨a12, c12, rfl, _, _, _, _⟩ := O12.out.rd.shape
  generalize hD : decide (nv xs < W64) = D at *
  have e3 := E3.out
  go_wp2_with fail
  exact hR.out _ _ (Gives.mk (Ext.trans b1 (Ext.trans b2 (Ext.trans b3 (Ext.trans b4 (Ext.trans b5 (Ext.trans b6 (Ext.trans b7 (Ext.trans b8 (Ext.trans b9 (Ext.trans b10 (Ext.trans b11 b12))))))))))) rfl)
theorem own : ownKnob Try.prog.godebug = none := by kernel_rfl
theorem laidOut : laidOutB Try.prog = true := by kernel_rfl

set_option maxRecDepth 100000 in
theorem contract (H : Type) (enc : TypeId × Value → H) (W : World) (base : Nat) (args : Array Value) (ds gs : List (DataW H)) (before : List MemPlace)
    (hval : ∀ (j : Nat) t v, Try.f3.params[j]? = some t → args[j]? = some v → Value.okWide Try.prog W .any base t v)
    (hW : DataW.Whole enc Try.prog Try.f3.params.toList Rows.limbWordsSpec.vars false W args.toList ds gs before) (hk : Rows.uptoSmall H (ds ++ gs) = true) :
    Calls Try.prog 3 args W fun e W' => ∃ v, e = .returned v ∧ Rows.limbWordsSpec.post enc Try.prog Try.f3 false true false false W args v W' := by
  have hW' := hW
  obtain ⟨p, q, hA0, hV, rfl, hfz, hnd⟩ := hW
  have hA : DataW.TrodAll enc Try.prog W 0 (fun _ => true) true Try.f3.params.toList args.toList ds p := hA0
  rw [Try.params3] at hA hval
  obtain ⟨v0, vs0, d0, ds0, p0, q0, hargs, rfl, rfl, h0, r0⟩ := trodAll_cons hA
  obtain ⟨v1, vs1, d1, ds1, p1, q1, rfl, rfl, rfl, h1, r1⟩ := trodAll_cons r0
  obtain ⟨rfl, rfl, rfl⟩ := trodAll_nil r1
  obtain rfl : args = #[v0, v1] := by cases args; simp_all
  obtain ⟨rfl, rfl⟩ := trodVars_none hV
  have hb := bulk_small hk
  simp only [List.append_nil, bulk_cons, bulk_nil] at hb
  have k0 := h0
  have lt0 : ∀ x ∈ p0, x.block < W.heap.size := by obtain ⟨m, hm⟩ := k0; exact DataW.trod_lt m _ _ _ hm
  obtain ⟨x0, rd0, len0⟩ := open_u32s (hval 0 22 v0 rfl rfl) h0
  obtain ⟨a1, rfl, rfl, rfl, wf1⟩ := open_int Try.underlying23 (hval 1 23 v1 rfl rfl) h1
  clear hA0
  refine (walk rd0 (by omega) (wf_u64 wf1)).mono fun e W' ⟨v, he, bel, hv⟩ => ?_
  subst he hv
  exact ⟨_, rfl, _, _, _, [], _, [], hW', trodAll_mk1 (shut_bool Try.underlying4 _), (trodAll_cons_mk (Below.trod laidOut (by kernel_rfl) (of_decide_eq_true (by kernel_rfl)) k0 bel lt0) (trodAll_cons_mk (shut_int Try.underlying23 wf1) trodAll_mk0)), rfl, bel.frame _, fun h => by cases h⟩

set_option maxRecDepth 100000 in
theorem lifted (os : Os) (started : os.Started) (H : Type) (enc : TypeId × Value → H) (F : Stop.Interp) :
    ReturnsInHanded {} Try.checked os 3 .any ((Rows.OpenSpec.upto Rows.limbWordsSpec).pre6 enc Try.prog Try.f3 Rows.limbWordsUptoRow.domain false) (((Rows.OpenSpec.upto Rows.limbWordsSpec).at F).post enc Try.prog Try.f3 false true false false) := by
  refine returnsInHanded_of_cond (C := Try.checked) (s := Rows.OpenSpec.upto Rows.limbWordsSpec) (k := Rows.uptoSmall) rfl own started (by kernel_rfl) Try.func3
    (OpenSpec.witness (enc := enc) (C := Try.checked) (s := Rows.OpenSpec.upto Rows.limbWordsSpec) (k := Rows.uptoSmall) rfl false ⟨#[], #[.slice none 0 0, .int .u64 0], []⟩ 8 (by kernel_rfl) (by kernel_rfl) (by kernel_rfl)
      (x := ([.nil, .lit (.int .u64 0)], [], [])) (by kernel_rfl) rfl (by kernel_rfl)) ?_
  intro W base args ds gs before hval hW _ hk _
  exact contract H enc W base args ds gs before hval hW hk

theorem proved : Rows.LimbWordsUptoSaid :=
  OpenClaim.holds_of_cond 3 Try.f3 rfl rfl rfl rfl rfl rfl rfl ⟨rfl, rfl, rfl, rfl, rfl⟩ rfl rfl rfl rfl rfl (by kernel_rfl) Try.func3 (by kernel_rfl)
    (of_decide_eq_true (by kernel_rfl)) (by unfold Func.isWrapper; first | (rw [if_pos (by decide +kernel)]; kernel_rfl) | (rw [if_neg (by decide +kernel)]; exact ⟨rfl, rfl⟩))
    (fun os started H enc _ F => lifted os started H enc F)
#print axioms proved

end Go.Proofs.Ytjkebebkadpnjaa.limbWords
