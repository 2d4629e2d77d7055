/- NatPows: powers are exact as far as the limits go, and refused beyond them. Conditions: the arguments hold together at most 1048576 values (the second form, Upto). -/
import Derived.Test.YtjnbhinjpinkaaaFrame
import Derived.Test.YtjnbhinjpinkaaaPAwake03
import Derived.Test.YtjnbhinjpinkaaaPNatPow
import Derived.Test.YtjnbhinjpinkaaaPRef3Pow
import Derived.Test.YtjnbhinjpinkaaaRefAll
namespace Go.Proofs.Ytjnbhinjpinkaaa.natPows
open Go.ChangeShapes Go.WideShapes Go.ChangeAt Go.RowKit Go.Att

set_option maxHeartbeats 4000000 in
set_option linter.unusedSimpArgs false in
theorem no {w : World} {va : Value} {ya : List Nat} {u : Int} (ha : RdL w va ya) (hla : ya.length ≤ 1048576) (hu : -9223372036854775808 ≤ u ∧ u ≤ 9223372036854775807) (hb : u < 0 ∨ 1000 < u ∨ 0 < u ∧ 100000 / u < blen (nv ya)) :
    Calls Try.prog 3 #[va, .int .i64 u] w (Gives w fun v' _ => v' = .bool true) := by
  refine via fun R hR => ?_
  have HA := Lib.hid ha
  have HB := Lib.hid hb
  clear ha
  by_cases h1 : u < 0
  · have e1 : decide (u < 0) = true := decide_eq_true h1
    clear hb h1
    go_enter Try.func3, Try.ntmps3
    go_wp2_with fail
    refine (Copy_any HA.out (by omega)).mono ?_
    rintro e w1 ⟨v1, rfl, b1, o1⟩
    have O1 := Lib.hid o1
    clear o1
    go_wp2_with fail
    refine (pow_no hu O1.out.rd (by omega) HB.out).mono ?_
    rintro e w2 ⟨_, rfl, b2, rfl⟩
    go_wp2_with fail
    refine (Of_any (HA.out.ext (Ext.trans b1 b2)) (by omega)).mono ?_
    rintro e w3 ⟨v3, rfl, b3, o3⟩
    have O3 := Lib.hid o3
    clear o3
    obtain ⟨a3, c3, rfl, -, -, -, -⟩ := O3.out.rd.shape
    go_wp2_with fail
    refine awake03.mono ?_
    rintro e w4 ⟨_, rfl, b4, rfl⟩
    go_wp2_with fail
    exact hR.out _ _ (Gives.mk (Ext.trans b1 (Ext.trans b2 (Ext.trans b3 b4))) rfl)
  have e1 : decide (u < 0) = false := decide_eq_false h1
  by_cases h2 : 1000 < u
  · have e2 : decide (1000 < u) = true := decide_eq_true h2
    clear hb h2 h1
    go_enter Try.func3, Try.ntmps3
    go_wp2_with fail
    refine (Copy_any HA.out (by omega)).mono ?_
    rintro e w1 ⟨v1, rfl, b1, o1⟩
    have O1 := Lib.hid o1
    clear o1
    go_wp2_with fail
    refine (pow_no hu O1.out.rd (by omega) HB.out).mono ?_
    rintro e w2 ⟨_, rfl, b2, rfl⟩
    go_wp2_with fail
    refine (Of_any (HA.out.ext (Ext.trans b1 b2)) (by omega)).mono ?_
    rintro e w3 ⟨v3, rfl, b3, o3⟩
    have O3 := Lib.hid o3
    clear o3
    obtain ⟨a3, c3, rfl, -, -, -, -⟩ := O3.out.rd.shape
    go_wp2_with fail
    refine awake03.mono ?_
    rintro e w4 ⟨_, rfl, b4, rfl⟩
    go_wp2_with fail
    exact hR.out _ _ (Gives.mk (Ext.trans b1 (Ext.trans b2 (Ext.trans b3 b4))) rfl)
  have e2 : decide (1000 < u) = false := decide_eq_false h2
  have h3 : 0 < u := by omega
  have h4 : 100000 / u < blen (nv ya) := by omega
  have e3 : decide (0 < u) = true := decide_eq_true h3
  have e4 : decide (100000 / u < ((bitsOf (nv ya)).length : Int)) = true := decide_eq_true (by rw [bitsOf_blen]; exact h4)
  have e5 : (u == 0) = false := beqF (by omega)
  have e6 : u ≠ 0 := by omega
  clear hb h1 h2 h4
  go_enter Try.func3, Try.ntmps3
  go_wp2_with fail
  refine (Copy_any HA.out (by omega)).mono ?_
  rintro e w1 ⟨v1, rfl, b1, o1⟩
  have O1 := Lib.hid o1
  clear o1
  go_wp2_with fail
  refine (pow_no hu O1.out.rd (by omega) HB.out).mono ?_
  rintro e w2 ⟨_, rfl, b2, rfl⟩
  go_wp2_with fail
  refine (Of_any (HA.out.ext (Ext.trans b1 b2)) (by omega)).mono ?_
  rintro e w3 ⟨v3, rfl, b3, o3⟩
  have O3 := Lib.hid o3
  clear o3
  obtain ⟨a3, c3, rfl, -, -, -, -⟩ := O3.out.rd.shape
  go_wp2_with fail
  refine awake03.mono ?_
  rintro e w4 ⟨_, rfl, b4, rfl⟩
  go_wp2_with fail
  exact hR.out _ _ (Gives.mk (Ext.trans b1 (Ext.trans b2 (Ext.trans b3 b4))) rfl)

set_option maxHeartbeats 4000000 in
theorem yes {w : World} {va : Value} {ya : List Nat} (n : Nat) (ha : RdL w va ya) (hla : ya.length ≤ 1048576) (hn : n ≤ 1000) (hb : n = 0 ∨ blen (nv ya) ≤ 100000 / n) :
    Calls Try.prog 3 #[va, .int .i64 n] w (Gives w fun v' _ => v' = .bool true) := by
  refine via fun R hR => ?_
  have HA := Lib.hid ha
  have HB := Lib.hid hb
  have hp := pow_bits (m := n) hb (Nat.le_refl _)
  have e1 : decide ((n : Int) < 0) = false := decide_eq_false (by omega)
  have e2 : decide (1000 < (n : Int)) = false := decide_eq_false (by omega)
  clear ha
  by_cases h0 : n ≤ 0
  · have e3 : decide (0 < (n : Int)) = false := decide_eq_false (by omega)
    have e3' : decide (0 < n) = false := decide_eq_false (by omega)
    have e7 : decide (40 < (n : Int)) = false := decide_eq_false (by omega)
    clear hb
    go_enter Try.func3, Try.ntmps3
    go_wp2_with fail
    refine (Copy_any HA.out (by omega)).mono ?_
    rintro e w1 ⟨v1, rfl, b1, o1⟩
    have O1 := Lib.hid o1
    clear o1
    go_wp2_with fail
    refine (pow_any n hn O1.out.rd (by omega) HB.out).mono ?_
    rintro e w2 ⟨_, rfl, b2, v2, rfl, o2⟩
    have O2 := Lib.hid o2
    clear o2
    go_wp2_with fail
    refine (Of_any (HA.out.ext (Ext.trans b1 b2)) (by omega)).mono ?_
    rintro e w3 ⟨v3, rfl, b3, o3⟩
    have O3 := Lib.hid o3
    clear o3
    obtain ⟨a3, c3, rfl, -, -, -, -⟩ := O3.out.rd.shape
    go_wp2_with fail
    refine awake03.mono ?_
    rintro e w4 ⟨_, rfl, b4, rfl⟩
    go_wp2_with fail
    refine (r3Pow_any n hn (O3.out.rd.ext b4) HB.out).mono ?_
    rintro e w5 ⟨v5, rfl, b5, o5⟩
    have O5 := Lib.hid o5
    clear o5
    go_wp2_with fail
    refine (To_any O5.out.rd (by omega)).mono ?_
    rintro e w6 ⟨v6, rfl, b6, o6⟩
    have O6 := Lib.hid o6
    clear o6
    go_wp2_with fail
    refine (Same_yes (O2.out.rd.ext (Ext.trans b3 (Ext.trans b4 (Ext.trans b5 b6)))) O6.out.rd (by rw [bval_bitsOf])).mono ?_
    rintro e w7 ⟨_, rfl, b7, rfl⟩
    go_wp2_with fail
    exact hR.out _ _ (Gives.mk (Ext.trans b1 (Ext.trans b2 (Ext.trans b3 (Ext.trans b4 (Ext.trans b5 (Ext.trans b6 b7)))))) rfl)
  · have e3 : decide (0 < (n : Int)) = true := decide_eq_true (by omega)
    have e3' : decide (0 < n) = true := decide_eq_true (by omega)
    have h4 : (blen (nv ya) : Int) ≤ 100000 / (n : Int) := by have h := hb.resolve_left (by omega); have h2 : ((100000 : Int) / (n : Int)) = ((100000 / n : Nat) : Int) := rfl; rw [h2]; exact Int.ofNat_le.2 h
    have e4 : decide (100000 / (n : Int) < ((bitsOf (nv ya)).length : Int)) = false := decide_eq_false (by rw [bitsOf_blen]; omega)
    have e5 : ((n : Int) == 0) = false := beqF (by omega)
    have e6 : (n : Int) ≠ 0 := by omega
    have e9 : n ≠ 0 := by omega
    clear hb h4
    by_cases h5 : 40 < n
    · have e7 : decide (40 < (n : Int)) = true := decide_eq_true (by omega)
      by_cases h6 : 2 < (bitsOf (nv ya)).length
      · have e8 : decide (2 < ((bitsOf (nv ya)).length : Int)) = true := decide_eq_true (by omega)
        clear h5 h6
        go_enter Try.func3, Try.ntmps3
        go_wp2_with fail
        refine (Copy_any HA.out (by omega)).mono ?_
        rintro e w1 ⟨v1, rfl, b1, o1⟩
        have O1 := Lib.hid o1
        clear o1
        go_wp2_with fail
        refine (pow_any n hn O1.out.rd (by omega) HB.out).mono ?_
        rintro e w2 ⟨_, rfl, b2, v2, rfl, o2⟩
        have O2 := Lib.hid o2
        clear o2
        go_wp2_with fail
        refine (Of_any (HA.out.ext (Ext.trans b1 b2)) (by omega)).mono ?_
        rintro e w3 ⟨v3, rfl, b3, o3⟩
        have O3 := Lib.hid o3
        clear o3
        obtain ⟨a3, c3, rfl, -, -, -, -⟩ := O3.out.rd.shape
        go_wp2_with fail
        refine awake03.mono ?_
        rintro e w4 ⟨_, rfl, b4, rfl⟩
        go_wp2_with fail
        exact hR.out _ _ (Gives.mk (Ext.trans b1 (Ext.trans b2 (Ext.trans b3 b4))) rfl)
      · have e8 : decide (2 < ((bitsOf (nv ya)).length : Int)) = false := decide_eq_false (by omega)
        clear h5 h6
        go_enter Try.func3, Try.ntmps3
        go_wp2_with fail
        refine (Copy_any HA.out (by omega)).mono ?_
        rintro e w1 ⟨v1, rfl, b1, o1⟩
        have O1 := Lib.hid o1
        clear o1
        go_wp2_with fail
        refine (pow_any n hn O1.out.rd (by omega) HB.out).mono ?_
        rintro e w2 ⟨_, rfl, b2, v2, rfl, o2⟩
        have O2 := Lib.hid o2
        clear o2
        go_wp2_with fail
        refine (Of_any (HA.out.ext (Ext.trans b1 b2)) (by omega)).mono ?_
        rintro e w3 ⟨v3, rfl, b3, o3⟩
        have O3 := Lib.hid o3
        clear o3
        obtain ⟨a3, c3, rfl, -, -, -, -⟩ := O3.out.rd.shape
        go_wp2_with fail
        refine awake03.mono ?_
        rintro e w4 ⟨_, rfl, b4, rfl⟩
        go_wp2_with fail
        refine (r3Pow_any n hn (O3.out.rd.ext b4) HB.out).mono ?_
        rintro e w5 ⟨v5, rfl, b5, o5⟩
        have O5 := Lib.hid o5
        clear o5
        go_wp2_with fail
        refine (To_any O5.out.rd (by omega)).mono ?_
        rintro e w6 ⟨v6, rfl, b6, o6⟩
        have O6 := Lib.hid o6
        clear o6
        go_wp2_with fail
        refine (Same_yes (O2.out.rd.ext (Ext.trans b3 (Ext.trans b4 (Ext.trans b5 b6)))) O6.out.rd (by rw [bval_bitsOf])).mono ?_
        rintro e w7 ⟨_, rfl, b7, rfl⟩
        go_wp2_with fail
        exact hR.out _ _ (Gives.mk (Ext.trans b1 (Ext.trans b2 (Ext.trans b3 (Ext.trans b4 (Ext.trans b5 (Ext.trans b6 b7)))))) rfl)
    · have e7 : decide (40 < (n : Int)) = false := decide_eq_false (by omega)
      clear h5
      go_enter Try.func3, Try.ntmps3
      go_wp2_with fail
      refine (Copy_any HA.out (by omega)).mono ?_
      rintro e w1 ⟨v1, rfl, b1, o1⟩
      have O1 := Lib.hid o1
      clear o1
      go_wp2_with fail
      refine (pow_any n hn O1.out.rd (by omega) HB.out).mono ?_
      rintro e w2 ⟨_, rfl, b2, v2, rfl, o2⟩
      have O2 := Lib.hid o2
      clear o2
      go_wp2_with fail
      refine (Of_any (HA.out.ext (Ext.trans b1 b2)) (by omega)).mono ?_
      rintro e w3 ⟨v3, rfl, b3, o3⟩
      have O3 := Lib.hid o3
      clear o3
      obtain ⟨a3, c3, rfl, -, -, -, -⟩ := O3.out.rd.shape
      go_wp2_with fail
      refine awake03.mono ?_
      rintro e w4 ⟨_, rfl, b4, rfl⟩
      go_wp2_with fail
      refine (r3Pow_any n hn (O3.out.rd.ext b4) HB.out).mono ?_
      rintro e w5 ⟨v5, rfl, b5, o5⟩
      have O5 := Lib.hid o5
      clear o5
      go_wp2_with fail
      refine (To_any O5.out.rd (by omega)).mono ?_
      rintro e w6 ⟨v6, rfl, b6, o6⟩
      have O6 := Lib.hid o6
      clear o6
      go_wp2_with fail
      refine (Same_yes (O2.out.rd.ext (Ext.trans b3 (Ext.trans b4 (Ext.trans b5 b6)))) O6.out.rd (by rw [bval_bitsOf])).mono ?_
      rintro e w7 ⟨_, rfl, b7, rfl⟩
      go_wp2_with fail
      exact hR.out _ _ (Gives.mk (Ext.trans b1 (Ext.trans b2 (Ext.trans b3 (Ext.trans b4 (Ext.trans b5 (Ext.trans b6 b7)))))) rfl)

theorem walk {w : World} {va : Value} {ya : List Nat} {u : Int} (ha : RdL w va ya) (hla : ya.length ≤ 1048576) (hu : -9223372036854775808 ≤ u ∧ u ≤ 9223372036854775807) :
    Calls Try.prog 3 #[va, .int .i64 u] w (Gives w fun v' _ => v' = .bool true) := by
  by_cases hb : u < 0 ∨ 1000 < u ∨ 0 < u ∧ 100000 / u < blen (nv ya)
  · exact no ha hla hu hb
  · obtain ⟨n, rfl⟩ := Int.eq_ofNat_of_zero_le (show 0 ≤ u by omega)
    refine yes n ha hla (by omega) ?_
    by_cases h0 : n = 0
    · exact .inl h0
    · refine .inr ?_
      have h1 : ¬ ((100000 : Int) / (n : Int) < blen (nv ya)) := fun h => hb (.inr (.inr ⟨by omega, h⟩))
      have h2 : ((100000 : Int) / (n : Int)) = ((100000 / n : Nat) : Int) := by simp
      omega
theorem own : ownKnob Try.prog.godebug = none := by kernel_rfl
theorem laidOut : laidOutB Try.prog = true := by kernel_rfl

set_option maxRecDepth 100000 in
theorem contract (H : Type) (enc : TypeId × Value → H) (W : World) (base : Nat) (args : Array Value) (ds gs : List (DataW H)) (before : List MemPlace)
    (hval : ∀ (j : Nat) t v, Try.f3.params[j]? = some t → args[j]? = some v → Value.okWide Try.prog W .any base t v)
    (hW : DataW.Whole enc Try.prog Try.f3.params.toList Rows.natPowsSpec.vars false W args.toList ds gs before) (hk : Rows.uptoSmall H (ds ++ gs) = true) :
    Calls Try.prog 3 args W fun e W' => ∃ v, e = .returned v ∧ Rows.natPowsSpec.post enc Try.prog Try.f3 false true false false W args v W' := by
  have hW' := hW
  obtain ⟨p, q, hA0, hV, rfl, hfz, hnd⟩ := hW
  have hA : DataW.TrodAll enc Try.prog W 0 (fun _ => true) true Try.f3.params.toList args.toList ds p := hA0
  rw [Try.params3] at hA hval
  obtain ⟨v0, vs0, d0, ds0, p0, q0, hargs, rfl, rfl, h0, r0⟩ := trodAll_cons hA
  obtain ⟨v1, vs1, d1, ds1, p1, q1, rfl, rfl, rfl, h1, r1⟩ := trodAll_cons r0
  obtain ⟨rfl, rfl, rfl⟩ := trodAll_nil r1
  obtain rfl : args = #[v0, v1] := by cases args; simp_all
  obtain ⟨rfl, rfl⟩ := trodVars_none hV
  have hb := bulk_small hk
  simp only [List.append_nil, bulk_cons, bulk_nil] at hb
  have k0 := h0
  have lt0 : ∀ x ∈ p0, x.block < W.heap.size := by obtain ⟨m, hm⟩ := k0; exact DataW.trod_lt m _ _ _ hm
  obtain ⟨x0, rd0, len0⟩ := open_u32s (hval 0 22 v0 rfl rfl) h0
  obtain ⟨a1, rfl, rfl, rfl, wf1⟩ := open_int Try.underlying3 (hval 1 3 v1 rfl rfl) h1
  clear hA0
  refine (walk rd0 (by omega) (wf_int wf1)).mono fun e W' ⟨v, he, bel, hv⟩ => ?_
  subst he hv
  exact ⟨_, rfl, _, _, _, [], _, [], hW', trodAll_mk1 (shut_bool Try.underlying4 _), (trodAll_cons_mk (Below.trod laidOut (by kernel_rfl) (of_decide_eq_true (by kernel_rfl)) k0 bel lt0) (trodAll_cons_mk (shut_int Try.underlying3 wf1) trodAll_mk0)), rfl, bel.frame _, fun h => by cases h⟩

set_option maxRecDepth 100000 in
theorem lifted (os : Os) (started : os.Started) (H : Type) (enc : TypeId × Value → H) (F : Stop.Interp) :
    ReturnsInHanded {} Try.checked os 3 .any ((Rows.OpenSpec.upto Rows.natPowsSpec).pre6 enc Try.prog Try.f3 Rows.natPowsUptoRow.domain false) (((Rows.OpenSpec.upto Rows.natPowsSpec).at F).post enc Try.prog Try.f3 false true false false) := by
  refine returnsInHanded_of_cond (C := Try.checked) (s := Rows.OpenSpec.upto Rows.natPowsSpec) (k := Rows.uptoSmall) rfl own started (by kernel_rfl) Try.func3
    (OpenSpec.witness (enc := enc) (C := Try.checked) (s := Rows.OpenSpec.upto Rows.natPowsSpec) (k := Rows.uptoSmall) rfl false ⟨#[], #[.slice none 0 0, .int .i64 0], []⟩ 8 (by kernel_rfl) (by kernel_rfl) (by kernel_rfl)
      (x := ([.nil, .lit (.int .i64 0)], [], [])) (by kernel_rfl) rfl (by kernel_rfl)) ?_
  intro W base args ds gs before hval hW _ hk _
  exact contract H enc W base args ds gs before hval hW hk

theorem proved : Rows.NatPowsUptoSaid :=
  OpenClaim.holds_of_cond 3 Try.f3 rfl rfl rfl rfl rfl rfl rfl ⟨rfl, rfl, rfl, rfl, rfl⟩ rfl rfl rfl rfl rfl (by kernel_rfl) Try.func3 (by kernel_rfl)
    (of_decide_eq_true (by kernel_rfl)) (by unfold Func.isWrapper; first | (rw [if_pos (by decide +kernel)]; kernel_rfl) | (rw [if_neg (by decide +kernel)]; exact ⟨rfl, rfl⟩))
    (fun os started H enc _ F => lifted os started H enc F)
#print axioms proved

end Go.Proofs.Ytjnbhinjpinkaaa.natPows
