/- DigitsTens: powers of ten are exact, and refused beyond the limit. Conditions: the arguments hold together at most 1048576 values (the second form, Upto); the two tables of unicode/utf8 hold what the text lays. -/
import Derived.Test.YtgajpmcjjefghaaDoorDoor
import Derived.Test.YtgajpmcjjefghaaDoorPAwake04
import Derived.Test.YtgajpmcjjefghaaDoorRefAll
namespace Go.Proofs.YtgajpmcjjefghaaDoor.digitsTens
open Go.ChangeShapes Go.WideShapes Go.ChangeAt Go.RowKit Go.Att

theorem walk {w : World} {n : Int} (hn : -9223372036854775808 ≤ n ∧ n ≤ 9223372036854775807) :
    Calls Tryd.prog 4 #[.int .i64 n] w (Gives w fun v' _ => v' = .bool true) := by
  refine via fun R hR => ?_
  by_cases h0 : n < 0
  · have hd0 : decide (n < 0) = true := decide_eq_true h0
    go_enter Tryd.func4, Tryd.ntmps4
    go_wp2_with fail
    refine (tens_neg h0).mono ?_
    rintro e w1 ⟨_, rfl, b1, rfl⟩
    go_wp2_with fail
    refine (awake04).mono ?_
    rintro e w2 ⟨_, rfl, b2, rfl⟩
    go_wp2_with fail
    exact hR.out _ _ (Gives.mk (Ext.trans b1 b2) rfl)
  · have hd0 : decide (n < 0) = false := decide_eq_false h0
    by_cases h1 : 20000 < n
    · have hd1 : decide (20000 < n) = true := decide_eq_true h1
      go_enter Tryd.func4, Tryd.ntmps4
      go_wp2_with fail
      refine (tens_big h1).mono ?_
      rintro e w1 ⟨_, rfl, b1, rfl⟩
      go_wp2_with fail
      refine (awake04).mono ?_
      rintro e w2 ⟨_, rfl, b2, rfl⟩
      go_wp2_with fail
      exact hR.out _ _ (Gives.mk (Ext.trans b1 b2) rfl)
    · obtain ⟨m, rfl⟩ : ∃ m : Nat, n = m := ⟨n.toNat, by omega⟩
      have hd1 : decide (20000 < (m : Int)) = false := decide_eq_false h1
      have hpos : 0 < (limbs (10 ^ m)).length := by
        refine Nat.pos_of_ne_zero fun h => ?_
        have h2 := nv_limbs (10 ^ m)
        rw [List.eq_nil_of_length_eq_zero h] at h2
        have h3 : 0 < 10 ^ m := Nat.pow_pos (by decide)
        rw [← h2] at h3
        exact absurd h3 (by simp [nv, val])
      have HTN : Hid (∀ w, Calls Tryd.prog 17 #[.int .i64 m] w (Gives w fun v' w' => ∃ v, v' = .tuple #[v, .int .i64 0] ∧ OwnL 71 w.heap.size w' v (limbs (10 ^ m)))) := fun w => tens_ok (by omega)
      have HRT : Hid (m ≤ 120 → ∀ w, Calls Tryd.prog 18 #[.int .i64 m] w (Gives w fun v' w' => OwnB 4 w.heap.size w' v' (bitsOf (10 ^ m)))) := fun h w => r4tens_any (by omega)
      have HB : Hid (m ≤ 120 → (bitsOf (10 ^ m)).length ≤ 1000) := fun h => Nat.le_trans (bits_lt (pow10_bits m)) (by omega)
      generalize 10 ^ m = T at *
      go_enter Tryd.func4, Tryd.ntmps4
      go_wp2_with fail
      refine (HTN.out _).mono ?_
      rintro e w1 ⟨_, rfl, b1, v1, rfl, o1⟩
      have O1 := Lib.hid o1
      obtain ⟨a1, c1, rfl, -, -, -, -⟩ := o1.rd.1.shape
      clear o1
      by_cases h2 : 120 < m
      · have hd2 : decide (120 < (m : Int)) = true := decide_eq_true (by omega)
        have hd3 : decide (0 < (limbs T).length) = true := decide_eq_true hpos
        go_wp2_with fail
        refine (awake04).mono ?_
        rintro e w2 ⟨_, rfl, b2, rfl⟩
        go_wp2_with fail
        exact hR.out _ _ (Gives.mk (Ext.trans b1 b2) rfl)
      · have hd2 : decide (120 < (m : Int)) = false := decide_eq_false (by omega)
        go_wp2_with fail
        refine (awake04).mono ?_
        rintro e w2 ⟨_, rfl, b2, rfl⟩
        go_wp2_with fail
        refine (HRT.out (by omega) _).mono ?_
        rintro e w3 ⟨v3, rfl, b3, o3⟩
        have O3 := Lib.hid o3
        clear o3
        go_wp2_with fail
        refine (To_any O3.out.rd (by have := HB.out (by omega); omega)).mono ?_
        rintro e w4 ⟨v4, rfl, b4, o4⟩
        have O4 := Lib.hid o4
        clear o4
        go_wp2_with fail
        refine (Same_yes (O1.out.rd.ext (Ext.trans b2 (Ext.trans b3 b4))) O4.out.rd (by rw [bval_bitsOf])).mono ?_
        rintro e w5 ⟨_, rfl, b5, rfl⟩
        go_wp2_with fail
        exact hR.out _ _ (Gives.mk (Ext.trans b1 (Ext.trans b2 (Ext.trans b3 (Ext.trans b4 b5)))) rfl)
theorem own : ownKnob Tryd.prog.godebug = none := by kernel_rfl
theorem laidOut : laidOutB Tryd.prog = true := by kernel_rfl

set_option maxRecDepth 100000 in
theorem contract (H : Type) (enc : TypeId × Value → H) (W : World) (base : Nat) (args : Array Value) (ds gs : List (DataW H)) (before : List MemPlace)
    (hval : ∀ (j : Nat) t v, Tryd.f4.params[j]? = some t → args[j]? = some v → Value.okWide Tryd.prog W .any base t v)
    (hW : DataW.Whole enc Tryd.prog Tryd.f4.params.toList Rows.digitsTensSpec.vars false W args.toList ds gs before) (hk : Rows.uptoSmall H (ds ++ gs) = true) :
    Calls Tryd.prog 4 args W fun e W' => ∃ v, e = .returned v ∧ Rows.digitsTensSpec.post enc Tryd.prog Tryd.f4 false true false false W args v W' := by
  have hW' := hW
  obtain ⟨p, q, hA0, hV, rfl, hfz, hnd⟩ := hW
  have hA : DataW.TrodAll enc Tryd.prog W 0 (fun _ => true) true Tryd.f4.params.toList args.toList ds p := hA0
  rw [Tryd.params4] at hA hval
  obtain ⟨v0, vs0, d0, ds0, p0, q0, hargs, rfl, rfl, h0, r0⟩ := trodAll_cons hA
  obtain ⟨rfl, rfl, rfl⟩ := trodAll_nil r0
  obtain rfl : args = #[v0] := by cases args; simp_all
  obtain ⟨rfl, rfl⟩ := trodVars_none hV
  have hb := bulk_small hk
  simp only [List.append_nil, bulk_cons, bulk_nil] at hb
  obtain ⟨a0, rfl, rfl, rfl, wf0⟩ := open_int Tryd.underlying3 (hval 0 3 v0 rfl rfl) h0
  clear hA0
  refine (walk (wf_int wf0)).mono fun e W' ⟨v, he, bel, hv⟩ => ?_
  subst he hv
  exact ⟨_, rfl, _, _, _, [], _, [], hW', trodAll_mk1 (shut_bool Tryd.underlying4 _), (trodAll_cons_mk (shut_int Tryd.underlying3 wf0) trodAll_mk0), rfl, bel.frame _, fun h => by cases h⟩

theorem laid_met (os : Os) : laidMet Tryd.prog Rows.digitsTensUptoRow.laid ((laidWorld os).forCall (fun _ _ => 0) ⟨#[], #[.int .i64 0], []⟩).memory :=
  laidMet_of_run' 8 (by kernel_rfl) (by kernel_rfl)
theorem reads (os : Os) {H : Type} (enc : TypeId × Value → H) : ∃ places, DataW.whole enc Tryd.prog ((laidWorld os).forCall (fun _ _ => 0) ⟨#[], #[.int .i64 0], []⟩).memory Tryd.f4.params.toList Rows.digitsTensSpec.vars false (#[.int .i64 0] : Array Value).toList 8 = some ([.lit (.int .i64 0)], [], places) :=
  ⟨[], by kernel_rfl⟩

set_option maxRecDepth 100000 in
theorem lifted (os : Os) (started : os.Started) (H : Type) (enc : TypeId × Value → H) (F : Stop.Interp) :
    ReturnsInHanded {} Tryd.checked os 4 .any ((Rows.OpenSpec.upto Rows.digitsTensSpec).preRow enc Tryd.prog Tryd.f4 Rows.digitsTensUptoRow.domain false Rows.digitsTensUptoRow.laid) (((Rows.OpenSpec.upto Rows.digitsTensSpec).at F).post enc Tryd.prog Tryd.f4 false true false false) := by
  obtain ⟨places, hx⟩ := reads os enc
  refine returnsInHanded_of_row (C := Tryd.checked) (s := Rows.OpenSpec.upto Rows.digitsTensSpec) own started (by kernel_rfl) Tryd.func4
    (witness_row_at (enc := enc) (C := Tryd.checked) false (laidWorld os) #[.int .i64 0] rfl (by kernel_rfl) (by kernel_rfl) (by kernel_rfl)
      (OpenSpec.preRow_of_cond 8 hx (by kernel_rfl) (fun k hk => by cases hk; kernel_rfl) (by kernel_rfl) (laid_met os))) ?_
  intro W base args ds gs before hval hW _ hcond _ _ _ _
  exact contract H enc W base args ds gs before hval hW (hcond _ rfl)

theorem said : Rows.DigitsTensUptoSaid :=
  OpenClaim.holds_of_cond 4 Tryd.f4 rfl rfl rfl rfl rfl rfl rfl ⟨rfl, rfl, rfl, rfl, rfl⟩ rfl rfl rfl rfl rfl (by kernel_rfl) Tryd.func4 (by kernel_rfl)
    (of_decide_eq_true (by kernel_rfl)) (by unfold Func.isWrapper; first | (rw [if_pos (by decide +kernel)]; kernel_rfl) | (rw [if_neg (by decide +kernel)]; exact ⟨rfl, rfl⟩))
    (fun os started H enc _ F => by rw [OpenClaim.pre_eq_preRow]; exact lifted os started H enc F)

/-- No parameter wants a stand-in; the program's own looks are off: what the card asks. -/
theorem plain (f : FuncId) (fn : Func) (hf : Tryd.pinned.checked.prog.funcNamed "attest/attestlaw04.DigitsTens" = some f) (hfn : Tryd.pinned.checked.prog.funcs[f]? = some fn) :
    false = Tryd.pinned.checked.prog.looks [] ∧ ∀ (j : Nat) t, fn.params[j]? = some t → Tryd.pinned.checked.prog.wantsStandIn t = false := by
  obtain rfl : f = 4 := Option.some.inj ((show Tryd.prog.funcNamed "attest/attestlaw04.DigitsTens" = some 4 by kernel_rfl).symm.trans hf) |>.symm
  obtain rfl : fn = Tryd.f4 := (Option.some.inj (Tryd.func4.symm.trans hfn)).symm
  refine ⟨by kernel_rfl, fun j t ht => ?_⟩
  rw [Tryd.params4] at ht
  have hm : t ∈ #[3] := Array.mem_of_getElem? ht
  simp only [List.mem_toArray, List.mem_cons, List.not_mem_nil, or_false] at hm
  subst hm
  exact (show Tryd.prog.wantsStandIn 3 = false by kernel_rfl)

/-- The card. -/
theorem proved : Rows.DigitsTensUptoCardSaid :=
  Claim7.holds_tied_plain_at .later [] _ _ _ _ said (fun _ h => by cases h) (by kernel_rfl) (fun _ h => by cases h) digitsTensUpto_row_tie rfl ⟨rfl, rfl⟩ (by kernel_rfl) rfl plain (by kernel_rfl)
#print axioms proved

end Go.Proofs.YtgajpmcjjefghaaDoor.digitsTens
