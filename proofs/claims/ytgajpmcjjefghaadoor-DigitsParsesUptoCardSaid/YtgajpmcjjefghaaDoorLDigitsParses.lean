/- DigitsParses: any text is read as the natural that its digits say, or refused as the document says. Conditions: the arguments hold together at most 1048576 values (the second form, Upto); the two tables of unicode/utf8 hold what the text lays. -/
import Derived.Test.YtgajpmcjjefghaaDoorDoor
import Derived.Test.YtgajpmcjjefghaaDoorPAwake04
import Derived.Test.YtgajpmcjjefghaaDoorRefAll
namespace Go.Proofs.YtgajpmcjjefghaaDoor.digitsParses
open Go.ChangeShapes Go.WideShapes Go.ChangeAt Go.RowKit Go.Att

theorem first_bad (p : Nat → Prop) [DecidablePred p] : ∀ n, (∀ k, k < n → p k) ∨ ∃ m, m < n ∧ (∀ k, k < m → p k) ∧ ¬ p m
  | 0 => .inl fun _ h => absurd h (Nat.not_lt_zero _)
  | n + 1 => by
    rcases first_bad p n with h | ⟨m, h1, h2, h3⟩
    · by_cases hp : p n
      · left
        intro k hk
        by_cases e : k = n
        · rw [e]; exact hp
        · exact h k (by omega)
      · exact .inr ⟨n, by omega, h, hp⟩
    · exact .inr ⟨m, by omega, h2, h3⟩

set_option maxHeartbeats 1000000 in
theorem walk {w : World} (s : ByteArray) (hs : s.size ≤ maxLen) :
    Calls Tryd.prog 3 #[.string s] w (Gives w fun v' _ => v' = .bool true) := by
  refine via fun R hR => ?_
  unfold maxLen at hs
  by_cases h1 : 20000 < s.size
  · have hc1 : decide ((20000 : Int) < s.size) = true := decide_eq_true (by omega)
    go_enter Tryd.func3, Tryd.ntmps3
    go_wp2_with fail
    refine (parse_big h1).mono ?_
    rintro e w1 ⟨_, rfl, b1, rfl⟩
    go_wp2_with fail
    refine (awake04).mono ?_
    rintro e w2 ⟨_, rfl, b2, rfl⟩
    go_wp2_with fail
    exact hR.out _ _ (Gives.mk (Ext.trans b1 b2) rfl)
  · have hc1 : decide ((20000 : Int) < s.size) = false := decide_eq_false (by omega)
    by_cases h2 : 300 < s.size
    · have hc2 : decide ((300 : Int) < s.size) = true := decide_eq_true (by omega)
      rcases first_bad (fun k => 48 ≤ nth (bsOf s) k ∧ nth (bsOf s) k ≤ 57) s.size with h | ⟨m, hm, hm1, hm2⟩
      · have HP : Hid (∀ w, Calls Tryd.prog 12 #[.string s] w (Gives w fun v' w' => ∃ v, v' = .tuple #[v, .int .i64 0] ∧ OwnL 71 w.heap.size w' v (limbs (numOf (bsOf s))))) := fun w => parse_ok h (by omega) (by omega)
        clear h
        go_enter Tryd.func3, Tryd.ntmps3
        go_wp2_with fail
        refine (HP.out _).mono ?_
        rintro e w1 ⟨_, rfl, b1, v1, rfl, -⟩
        go_wp2_with fail
        refine (awake04).mono ?_
        rintro e w2 ⟨_, rfl, b2, rfl⟩
        go_wp2_with fail
        exact hR.out _ _ (Gives.mk (Ext.trans b1 b2) rfl)
      · have HP : Hid (∀ w, Calls Tryd.prog 12 #[.string s] w (Gives w fun v' _ => v' = .tuple #[.slice none 0 0, .int .i64 3])) := fun w => parse_bad hm hm1 hm2 (by omega)
        clear hm1 hm2
        go_enter Tryd.func3, Tryd.ntmps3
        go_wp2_with fail
        refine (HP.out _).mono ?_
        rintro e w1 ⟨_, rfl, b1, rfl⟩
        go_wp2_with fail
        refine (awake04).mono ?_
        rintro e w2 ⟨_, rfl, b2, rfl⟩
        go_wp2_with fail
        exact hR.out _ _ (Gives.mk (Ext.trans b1 b2) rfl)
    · have hc2 : decide ((300 : Int) < s.size) = false := decide_eq_false (by omega)
      by_cases h0 : s.size = 0
      · have HP : Hid (∀ w, Calls Tryd.prog 12 #[.string s] w (Gives w fun v' _ => v' = .tuple #[.slice none 0 0, .int .i64 3])) := fun w => parse_none h0
        have HQ : Hid (∀ w, Calls Tryd.prog 14 #[.string s] w (Gives w fun v' _ => v' = .tuple #[.slice none 0 0, .bool false])) := fun w => r4parse_none h0
        go_enter Tryd.func3, Tryd.ntmps3
        go_wp2_with fail
        refine (HP.out _).mono ?_
        rintro e w1 ⟨_, rfl, b1, rfl⟩
        go_wp2_with fail
        refine (HQ.out _).mono ?_
        rintro e w2 ⟨_, rfl, b2, rfl⟩
        go_wp2_with fail
        refine (awake04).mono ?_
        rintro e w3 ⟨_, rfl, b3, rfl⟩
        go_wp2_with fail
        exact hR.out _ _ (Gives.mk (Ext.trans b1 (Ext.trans b2 b3)) rfl)
      · rcases first_bad (fun k => 48 ≤ nth (bsOf s) k ∧ nth (bsOf s) k ≤ 57) s.size with h | ⟨m, hm, hm1, hm2⟩
        · have HP : Hid (∀ w, Calls Tryd.prog 12 #[.string s] w (Gives w fun v' w' => ∃ v, v' = .tuple #[v, .int .i64 0] ∧ OwnL 71 w.heap.size w' v (limbs (numOf (bsOf s))))) := fun w => parse_ok h (by omega) (by omega)
          have HQ : Hid (∀ w, Calls Tryd.prog 14 #[.string s] w (Gives w fun v' w' => ∃ v, v' = .tuple #[v, .bool true] ∧ OwnB 4 w.heap.size w' v (bitsOf (numOf (bsOf s))))) := fun w => r4parse_ok h (by omega) (by omega)
          have HB : Hid ((bitsOf (numOf (bsOf s))).length ≤ 8001) := by
            have h3 := num_bits (bs := bsOf s) (k := s.size) h
            rw [List.take_of_length_le (by rw [bsOf_len]; exact Nat.le_refl _)] at h3
            exact Nat.le_trans h3 (by omega)
          clear h
          go_enter Tryd.func3, Tryd.ntmps3
          go_wp2_with fail
          refine (HP.out _).mono ?_
          rintro e w1 ⟨_, rfl, b1, v1, rfl, o1⟩
          have O1 := Lib.hid o1
          clear o1
          go_wp2_with fail
          refine (HQ.out _).mono ?_
          rintro e w2 ⟨_, rfl, b2, v2, rfl, o2⟩
          have O2 := Lib.hid o2
          clear o2
          go_wp2_with fail
          refine (awake04).mono ?_
          rintro e w3 ⟨_, rfl, b3, rfl⟩
          go_wp2_with fail
          refine (To_any (O2.out.rd.ext b3) (by have := HB.out; omega)).mono ?_
          rintro e w4 ⟨v4, rfl, b4, o4⟩
          have O4 := Lib.hid o4
          clear o4
          go_wp2_with fail
          refine (Same_yes (O1.out.rd.ext (Ext.trans b2 (Ext.trans b3 b4))) O4.out.rd (by rw [bval_bitsOf])).mono ?_
          rintro e w5 ⟨_, rfl, b5, rfl⟩
          go_wp2_with fail
          exact hR.out _ _ (Gives.mk (Ext.trans b1 (Ext.trans b2 (Ext.trans b3 (Ext.trans b4 b5)))) rfl)
        · have HP : Hid (∀ w, Calls Tryd.prog 12 #[.string s] w (Gives w fun v' _ => v' = .tuple #[.slice none 0 0, .int .i64 3])) := fun w => parse_bad hm hm1 hm2 (by omega)
          have HQ : Hid (∀ w, Calls Tryd.prog 14 #[.string s] w (Gives w fun v' _ => v' = .tuple #[.slice none 0 0, .bool false])) := fun w => r4parse_bad hm hm1 hm2 (by omega)
          clear hm1 hm2
          go_enter Tryd.func3, Tryd.ntmps3
          go_wp2_with fail
          refine (HP.out _).mono ?_
          rintro e w1 ⟨_, rfl, b1, rfl⟩
          go_wp2_with fail
          refine (HQ.out _).mono ?_
          rintro e w2 ⟨_, rfl, b2, rfl⟩
          go_wp2_with fail
          refine (awake04).mono ?_
          rintro e w3 ⟨_, rfl, b3, rfl⟩
          go_wp2_with fail
          exact hR.out _ _ (Gives.mk (Ext.trans b1 (Ext.trans b2 b3)) rfl)
theorem own : ownKnob Tryd.prog.godebug = none := by kernel_rfl
theorem laidOut : laidOutB Tryd.prog = true := by kernel_rfl

set_option maxRecDepth 100000 in
theorem contract (H : Type) (enc : TypeId × Value → H) (W : World) (base : Nat) (args : Array Value) (ds gs : List (DataW H)) (before : List MemPlace)
    (hval : ∀ (j : Nat) t v, Tryd.f3.params[j]? = some t → args[j]? = some v → Value.okWide Tryd.prog W .any base t v)
    (hW : DataW.Whole enc Tryd.prog Tryd.f3.params.toList Rows.digitsParsesSpec.vars false W args.toList ds gs before) (hk : Rows.uptoSmall H (ds ++ gs) = true) :
    Calls Tryd.prog 3 args W fun e W' => ∃ v, e = .returned v ∧ Rows.digitsParsesSpec.post enc Tryd.prog Tryd.f3 false true false false W args v W' := by
  have hW' := hW
  obtain ⟨p, q, hA0, hV, rfl, hfz, hnd⟩ := hW
  have hA : DataW.TrodAll enc Tryd.prog W 0 (fun _ => true) true Tryd.f3.params.toList args.toList ds p := hA0
  rw [Tryd.params3] at hA hval
  obtain ⟨v0, vs0, d0, ds0, p0, q0, hargs, rfl, rfl, h0, r0⟩ := trodAll_cons hA
  obtain ⟨rfl, rfl, rfl⟩ := trodAll_nil r0
  obtain rfl : args = #[v0] := by cases args; simp_all
  obtain ⟨rfl, rfl⟩ := trodVars_none hV
  have hb := bulk_small hk
  simp only [List.append_nil, bulk_cons, bulk_nil] at hb
  obtain ⟨s0, rfl, rfl, rfl, ws0⟩ := Go.ChangeMaps.open_string Tryd.underlying9 (hval 0 9 v0 rfl rfl) h0
  clear hA0
  refine (walk s0 ws0).mono fun e W' ⟨v, he, bel, hv⟩ => ?_
  subst he hv
  exact ⟨_, rfl, _, _, _, [], _, [], hW', trodAll_mk1 (shut_bool Tryd.underlying4 _), (trodAll_cons_mk (Go.ChangeMaps.shut_string Tryd.underlying9 ws0) trodAll_mk0), rfl, bel.frame _, fun h => by cases h⟩

theorem laid_met (os : Os) : laidMet Tryd.prog Rows.digitsParsesUptoRow.laid ((laidWorld os).forCall (fun _ _ => 0) ⟨#[], #[.string ⟨#[]⟩], []⟩).memory :=
  laidMet_of_run' 8 (by kernel_rfl) (by kernel_rfl)
theorem reads (os : Os) {H : Type} (enc : TypeId × Value → H) : ∃ places, DataW.whole enc Tryd.prog ((laidWorld os).forCall (fun _ _ => 0) ⟨#[], #[.string ⟨#[]⟩], []⟩).memory Tryd.f3.params.toList Rows.digitsParsesSpec.vars false (#[.string ⟨#[]⟩] : Array Value).toList 8 = some ([.lit (.string [])], [], places) :=
  ⟨[], by kernel_rfl⟩

set_option maxRecDepth 100000 in
theorem lifted (os : Os) (started : os.Started) (H : Type) (enc : TypeId × Value → H) (F : Stop.Interp) :
    ReturnsInHanded {} Tryd.checked os 3 .any ((Rows.OpenSpec.upto Rows.digitsParsesSpec).preRow enc Tryd.prog Tryd.f3 Rows.digitsParsesUptoRow.domain false Rows.digitsParsesUptoRow.laid) (((Rows.OpenSpec.upto Rows.digitsParsesSpec).at F).post enc Tryd.prog Tryd.f3 false true false false) := by
  obtain ⟨places, hx⟩ := reads os enc
  refine returnsInHanded_of_row (C := Tryd.checked) (s := Rows.OpenSpec.upto Rows.digitsParsesSpec) own started (by kernel_rfl) Tryd.func3
    (witness_row_at (enc := enc) (C := Tryd.checked) false (laidWorld os) #[.string ⟨#[]⟩] rfl (by kernel_rfl) (by kernel_rfl) (by kernel_rfl)
      (OpenSpec.preRow_of_cond 8 hx (by kernel_rfl) (fun k hk => by cases hk; kernel_rfl) (by kernel_rfl) (laid_met os))) ?_
  intro W base args ds gs before hval hW _ hcond _ _ _ _
  exact contract H enc W base args ds gs before hval hW (hcond _ rfl)

theorem said : Rows.DigitsParsesUptoSaid :=
  OpenClaim.holds_of_cond 3 Tryd.f3 rfl rfl rfl rfl rfl rfl rfl ⟨rfl, rfl, rfl, rfl, rfl⟩ rfl rfl rfl rfl rfl (by kernel_rfl) Tryd.func3 (by kernel_rfl)
    (of_decide_eq_true (by kernel_rfl)) (by unfold Func.isWrapper; first | (rw [if_pos (by decide +kernel)]; kernel_rfl) | (rw [if_neg (by decide +kernel)]; exact ⟨rfl, rfl⟩))
    (fun os started H enc _ F => by rw [OpenClaim.pre_eq_preRow]; exact lifted os started H enc F)

/-- No parameter wants a stand-in; the program's own looks are off: what the card asks. -/
theorem plain (f : FuncId) (fn : Func) (hf : Tryd.pinned.checked.prog.funcNamed "attest/attestlaw04.DigitsParses" = some f) (hfn : Tryd.pinned.checked.prog.funcs[f]? = some fn) :
    false = Tryd.pinned.checked.prog.looks [] ∧ ∀ (j : Nat) t, fn.params[j]? = some t → Tryd.pinned.checked.prog.wantsStandIn t = false := by
  obtain rfl : f = 3 := Option.some.inj ((show Tryd.prog.funcNamed "attest/attestlaw04.DigitsParses" = some 3 by kernel_rfl).symm.trans hf) |>.symm
  obtain rfl : fn = Tryd.f3 := (Option.some.inj (Tryd.func3.symm.trans hfn)).symm
  refine ⟨by kernel_rfl, fun j t ht => ?_⟩
  rw [Tryd.params3] at ht
  have hm : t ∈ #[9] := Array.mem_of_getElem? ht
  simp only [List.mem_toArray, List.mem_cons, List.not_mem_nil, or_false] at hm
  subst hm
  exact (show Tryd.prog.wantsStandIn 9 = false by kernel_rfl)

/-- The card. -/
theorem proved : Rows.DigitsParsesUptoCardSaid :=
  Claim7.holds_tied_plain_at .later [] _ _ _ _ said (fun _ h => by cases h) (by kernel_rfl) (fun _ h => by cases h) digitsParsesUpto_row_tie rfl ⟨rfl, rfl⟩ (by kernel_rfl) rfl plain (by kernel_rfl)
#print axioms proved

end Go.Proofs.YtgajpmcjjefghaaDoor.digitsParses
