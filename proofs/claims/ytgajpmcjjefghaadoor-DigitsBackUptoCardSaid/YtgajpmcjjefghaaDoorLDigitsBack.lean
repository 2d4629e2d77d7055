/- DigitsBack: what is written in digits is read back as the same number, with noughts in front, too. Conditions: the arguments hold together at most 1048576 values (the second form, Upto); the two tables of unicode/utf8 hold what the text lays. -/
import Derived.Test.YtgajpmcjjefghaaDoorDoor
import Derived.Test.YtgajpmcjjefghaaDoorPAwake04
import Derived.Test.YtgajpmcjjefghaaDoorPFew04
import Derived.Test.YtgajpmcjjefghaaDoorPPad
import Derived.Test.YtgajpmcjjefghaaDoorPParse
import Derived.Test.YtgajpmcjjefghaaDoorRefAll
import Derived.Test.YtgajpmcjjefghaaDoorLimbAll
namespace Go.Proofs.YtgajpmcjjefghaaDoor.digitsBack
open Go.ChangeShapes Go.WideShapes Go.ChangeAt Go.RowKit Go.Att

theorem text_len {N k : Nat} {xs : List Nat} (hf : Fit W32 xs) (hk : xs.length ≤ k) (h0 : 0 < k) (hN : nv xs = N) : (dtext N).length ≤ 10 * k := by
  have h1 : W32 ^ k ≤ 10 ^ (10 * k) := by rw [Nat.pow_mul]; exact Nat.pow_le_pow_left (by decide) k
  have h2 : N < W32 ^ k := by
    rw [← hN]
    exact Nat.lt_of_lt_of_le (val_lt (B := W32) (by decide) hf) (Nat.pow_le_pow_right (by decide) hk)
  exact dtext_len_le (Nat.lt_of_lt_of_le h2 h1) (by omega)
theorem bsOf_strOf {L : List Nat} (h : Fit 256 L) : bsOf (strOf L) = L := by
  unfold bsOf strOf
  simp only [List.map_map]
  refine List.map_congr_left (g := id) (fun x hx => ?_) |>.trans (List.map_id L)
  have := h x hx
  simp
  omega
theorem parse_str {w : World} {L : List Nat} {N : Nat} (hd : Digs L) (h0 : 0 < L.length) (h1 : L.length ≤ 20000) (hN : numOf L = N) :
    Calls Tryd.prog 12 #[.string (strOf L)] w (Gives w fun v' w' => ∃ v, v' = .tuple #[v, .int .i64 0] ∧ OwnL 71 w.heap.size w' v (limbs N)) := by
  have hb : bsOf (strOf L) = L := bsOf_strOf fun x hx => by have := hd x hx; omega
  have h := parse_ok (w := w) (s := strOf L) (fun k hk => by
    rw [hb]
    rw [strOf_size] at hk
    rw [nth_lt _ _ hk]
    exact hd _ (List.getElem_mem hk)) (by rw [strOf_size]; exact h0) (by rw [strOf_size]; exact h1)
  rw [hb, hN] at h
  exact h
theorem padded_digs {D : List Nat} (n : Int) (h : Digs D) : Digs (padded n D) := by
  unfold padded
  exact Digs.app (fun x hx => by rw [List.eq_of_mem_replicate hx]; decide) h
theorem numOf_zeros (c : Nat) : numOf (List.replicate c 48) = 0 := by
  induction c with
  | zero => rfl
  | succ c ih => rw [List.replicate_succ', numOf_snoc, ih]
theorem padded_num {D : List Nat} (n : Int) : numOf (padded n D) = numOf D := by
  unfold padded
  rw [numOf_app, numOf_zeros, Nat.mul_zero, Nat.zero_add]
theorem text_to {w : World} {v : Value} {xs : List Nat} {N : Nat} (hv : RdL w v xs) (hl : xs.length ≤ 1000000) (hN : nv xs = N) :
    Calls Tryd.prog 20 #[v] w (Gives w fun v' _ => v' = .string (strOf (dtext N))) := hN ▸ text_any hv hl
theorem pad_to {w : World} {v : Value} {xs : List Nat} {N : Nat} {n : Int} (h0 : 0 ≤ n) (h1 : n ≤ 20000) (hv : RdL w v xs) (hl : xs.length ≤ 1000) (hN : nv xs = N) :
    Calls Tryd.prog 25 #[v, .int .i64 n] w (Gives w fun v' _ => v' = .tuple #[.string (strOf (padded n (dtext N))), .int .i64 0]) := hN ▸ pad_any h0 h1 hv hl
theorem cmp_to {w : World} {va vb : Value} {xs : List Nat} {N : Nat} (ha : RdL w va (limbs N)) (hb : RdL w vb xs) (hN : nv xs = N) :
    Calls Tryd.prog 27 #[va, vb] w (Gives w fun v' _ => v' = .int .i64 0) := by
  have h := cmp_any ha hb
  rw [nv_limbs, hN, show cmpN N N = 0 by unfold cmpN; simp] at h
  exact h
set_option maxHeartbeats 4000000 in
set_option maxRecDepth 100000 in
theorem walk {w : World} {v : Value} {xs : List Nat} {n : Int} (hv : RdL w v xs) (hl : xs.length ≤ 1048576) (hn : -9223372036854775808 ≤ n ∧ n ≤ 9223372036854775807) :
    Calls Tryd.prog 7 #[v, .int .i64 n] w (Gives w fun v' _ => v' = .bool true) := by
  refine via fun R hR => ?_
  have HV := Lib.hid hv
  have HL : Hid ((xs.take 500).length ≤ 500) := by show _ ≤ _; rw [List.length_take]; exact Nat.min_le_left _ _
  obtain ⟨N, hN⟩ : ∃ N, nv (xs.take 500) = N := ⟨_, rfl⟩
  have HDL : Hid ((dtext N).length ≤ 5000) := text_len (hv.2.take 500) HL.out (by decide) hN
  have HNN := Lib.hid hN
  clear hv hN
  by_cases h0 : n < 0
  · have hd0 : decide (n < 0) = true := decide_eq_true h0
    go_enter Tryd.func7, Tryd.ntmps7
    go_wp2_with fail
    refine (few4_any 500 (by decide) HV.out (by omega)).mono ?_
    rintro e w1 ⟨v1, rfl, b1, o1⟩
    have O1 := Lib.hid o1
    clear o1
    go_wp2_with fail
    refine (Copy_any O1.out.rd (by have := HL.out; omega)).mono ?_
    rintro e w2 ⟨v2, rfl, b2, o2⟩
    have O2 := Lib.hid o2
    clear o2
    go_wp2_with fail
    refine (text_to O2.out.rd (by have := HL.out; omega) HNN.out).mono ?_
    rintro e w3 ⟨_, rfl, b3, rfl⟩
    have HP1 : Hid (∀ w, Calls Tryd.prog 12 #[.string (strOf (dtext N))] w (Gives w fun v' w' => ∃ v, v' = .tuple #[v, .int .i64 0] ∧ OwnL 71 w.heap.size w' v (limbs N))) := fun w => parse_str (dtext_digs N) (dtext_pos N) (by have := HDL.out; omega) (dtext_num N)
    generalize strOf (dtext N) = S at *
    go_wp2_with fail
    refine (HP1.out _).mono ?_
    rintro e w4 ⟨_, rfl, b4, v4, rfl, o4⟩
    have O4 := Lib.hid o4
    clear o4
    go_wp2_with fail
    refine (Copy_any (O1.out.rd.ext (Ext.trans b2 (Ext.trans b3 b4))) (by have := HL.out; omega)).mono ?_
    rintro e w5 ⟨v5, rfl, b5, o5⟩
    have O5 := Lib.hid o5
    clear o5
    go_wp2_with fail
    refine (pad_neg h0).mono ?_
    rintro e w6 ⟨_, rfl, b6, rfl⟩
    skip
    go_wp2_with fail
    refine (awake04).mono ?_
    rintro e w7 ⟨_, rfl, b7, rfl⟩
    go_wp2_with fail
    refine (Copy_any (O1.out.rd.ext (Ext.trans b2 (Ext.trans b3 (Ext.trans b4 (Ext.trans b5 (Ext.trans b6 b7)))))) (by have := HL.out; omega)).mono ?_
    rintro e w8 ⟨v8, rfl, b8, o8⟩
    have O8 := Lib.hid o8
    clear o8
    go_wp2_with fail
    refine (cmp_to (O4.out.rd.ext (Ext.trans b5 (Ext.trans b6 (Ext.trans b7 b8)))) O8.out.rd HNN.out).mono ?_
    rintro e w9 ⟨_, rfl, b9, rfl⟩
    go_wp2_with fail
    exact hR.out _ _ (Gives.mk (Ext.trans b1 (Ext.trans b2 (Ext.trans b3 (Ext.trans b4 (Ext.trans b5 (Ext.trans b6 (Ext.trans b7 (Ext.trans b8 b9)))))))) rfl)
  · have hd0 : decide (n < 0) = false := decide_eq_false h0
    by_cases h1 : 20000 < n
    · have hd1 : decide (20000 < n) = true := decide_eq_true h1
      go_enter Tryd.func7, Tryd.ntmps7
      go_wp2_with fail
      refine (few4_any 500 (by decide) HV.out (by omega)).mono ?_
      rintro e w1 ⟨v1, rfl, b1, o1⟩
      have O1 := Lib.hid o1
      clear o1
      go_wp2_with fail
      refine (Copy_any O1.out.rd (by have := HL.out; omega)).mono ?_
      rintro e w2 ⟨v2, rfl, b2, o2⟩
      have O2 := Lib.hid o2
      clear o2
      go_wp2_with fail
      refine (text_to O2.out.rd (by have := HL.out; omega) HNN.out).mono ?_
      rintro e w3 ⟨_, rfl, b3, rfl⟩
      have HP1 : Hid (∀ w, Calls Tryd.prog 12 #[.string (strOf (dtext N))] w (Gives w fun v' w' => ∃ v, v' = .tuple #[v, .int .i64 0] ∧ OwnL 71 w.heap.size w' v (limbs N))) := fun w => parse_str (dtext_digs N) (dtext_pos N) (by have := HDL.out; omega) (dtext_num N)
      generalize strOf (dtext N) = S at *
      go_wp2_with fail
      refine (HP1.out _).mono ?_
      rintro e w4 ⟨_, rfl, b4, v4, rfl, o4⟩
      have O4 := Lib.hid o4
      clear o4
      go_wp2_with fail
      refine (Copy_any (O1.out.rd.ext (Ext.trans b2 (Ext.trans b3 b4))) (by have := HL.out; omega)).mono ?_
      rintro e w5 ⟨v5, rfl, b5, o5⟩
      have O5 := Lib.hid o5
      clear o5
      go_wp2_with fail
      refine (pad_big h1).mono ?_
      rintro e w6 ⟨_, rfl, b6, rfl⟩
      skip
      go_wp2_with fail
      refine (awake04).mono ?_
      rintro e w7 ⟨_, rfl, b7, rfl⟩
      go_wp2_with fail
      refine (Copy_any (O1.out.rd.ext (Ext.trans b2 (Ext.trans b3 (Ext.trans b4 (Ext.trans b5 (Ext.trans b6 b7)))))) (by have := HL.out; omega)).mono ?_
      rintro e w8 ⟨v8, rfl, b8, o8⟩
      have O8 := Lib.hid o8
      clear o8
      go_wp2_with fail
      refine (cmp_to (O4.out.rd.ext (Ext.trans b5 (Ext.trans b6 (Ext.trans b7 b8)))) O8.out.rd HNN.out).mono ?_
      rintro e w9 ⟨_, rfl, b9, rfl⟩
      go_wp2_with fail
      exact hR.out _ _ (Gives.mk (Ext.trans b1 (Ext.trans b2 (Ext.trans b3 (Ext.trans b4 (Ext.trans b5 (Ext.trans b6 (Ext.trans b7 (Ext.trans b8 b9)))))))) rfl)
    · have hn0 : 0 ≤ n := by omega
      have hn1 : n ≤ 20000 := by omega
      have HPP : Hid (∀ w, Calls Tryd.prog 12 #[.string (strOf (padded n (dtext N)))] w (Gives w fun v' w' => ∃ v, v' = .tuple #[v, .int .i64 0] ∧ OwnL 71 w.heap.size w' v (limbs N))) := fun w => parse_str (padded_digs n (dtext_digs N)) (by unfold padded; rw [List.length_append]; have := dtext_pos N; omega) (by unfold padded; rw [List.length_append, List.length_replicate]; have := HDL.out; omega) (by rw [padded_num, dtext_num])
      go_enter Tryd.func7, Tryd.ntmps7
      go_wp2_with fail
      refine (few4_any 500 (by decide) HV.out (by omega)).mono ?_
      rintro e w1 ⟨v1, rfl, b1, o1⟩
      have O1 := Lib.hid o1
      clear o1
      go_wp2_with fail
      refine (Copy_any O1.out.rd (by have := HL.out; omega)).mono ?_
      rintro e w2 ⟨v2, rfl, b2, o2⟩
      have O2 := Lib.hid o2
      clear o2
      go_wp2_with fail
      refine (text_to O2.out.rd (by have := HL.out; omega) HNN.out).mono ?_
      rintro e w3 ⟨_, rfl, b3, rfl⟩
      have HP1 : Hid (∀ w, Calls Tryd.prog 12 #[.string (strOf (dtext N))] w (Gives w fun v' w' => ∃ v, v' = .tuple #[v, .int .i64 0] ∧ OwnL 71 w.heap.size w' v (limbs N))) := fun w => parse_str (dtext_digs N) (dtext_pos N) (by have := HDL.out; omega) (dtext_num N)
      generalize strOf (dtext N) = S at *
      go_wp2_with fail
      refine (HP1.out _).mono ?_
      rintro e w4 ⟨_, rfl, b4, v4, rfl, o4⟩
      have O4 := Lib.hid o4
      clear o4
      go_wp2_with fail
      refine (Copy_any (O1.out.rd.ext (Ext.trans b2 (Ext.trans b3 b4))) (by have := HL.out; omega)).mono ?_
      rintro e w5 ⟨v5, rfl, b5, o5⟩
      have O5 := Lib.hid o5
      clear o5
      go_wp2_with fail
      refine (pad_to hn0 hn1 O5.out.rd (by have := HL.out; omega) HNN.out).mono ?_
      rintro e w6 ⟨_, rfl, b6, rfl⟩
      generalize strOf (padded n (dtext N)) = P at *
      go_wp2_with fail
      refine (awake04).mono ?_
      rintro e w7 ⟨_, rfl, b7, rfl⟩
      go_wp2_with fail
      refine (Copy_any (O1.out.rd.ext (Ext.trans b2 (Ext.trans b3 (Ext.trans b4 (Ext.trans b5 (Ext.trans b6 b7)))))) (by have := HL.out; omega)).mono ?_
      rintro e w8 ⟨v8, rfl, b8, o8⟩
      have O8 := Lib.hid o8
      clear o8
      go_wp2_with fail
      refine (cmp_to (O4.out.rd.ext (Ext.trans b5 (Ext.trans b6 (Ext.trans b7 b8)))) O8.out.rd HNN.out).mono ?_
      rintro e w9 ⟨_, rfl, b9, rfl⟩
      go_wp2_with fail
      refine (HPP.out _).mono ?_
      rintro e w10 ⟨_, rfl, b10, v10, rfl, o10⟩
      have O10 := Lib.hid o10
      clear o10
      go_wp2_with fail
      refine (Same_yes O10.out.rd (O4.out.rd.ext (Ext.trans b5 (Ext.trans b6 (Ext.trans b7 (Ext.trans b8 (Ext.trans b9 b10)))))) rfl).mono ?_
      rintro e w11 ⟨_, rfl, b11, rfl⟩
      go_wp2_with fail
      exact hR.out _ _ (Gives.mk (Ext.trans b1 (Ext.trans b2 (Ext.trans b3 (Ext.trans b4 (Ext.trans b5 (Ext.trans b6 (Ext.trans b7 (Ext.trans b8 (Ext.trans b9 (Ext.trans b10 b11)))))))))) rfl)
theorem own : ownKnob Tryd.prog.godebug = none := by kernel_rfl
theorem laidOut : laidOutB Tryd.prog = true := by kernel_rfl

set_option maxRecDepth 100000 in
theorem contract (H : Type) (enc : TypeId × Value → H) (W : World) (base : Nat) (args : Array Value) (ds gs : List (DataW H)) (before : List MemPlace)
    (hval : ∀ (j : Nat) t v, Tryd.f7.params[j]? = some t → args[j]? = some v → Value.okWide Tryd.prog W .any base t v)
    (hW : DataW.Whole enc Tryd.prog Tryd.f7.params.toList Rows.digitsBackSpec.vars false W args.toList ds gs before) (hk : Rows.uptoSmall H (ds ++ gs) = true) :
    Calls Tryd.prog 7 args W fun e W' => ∃ v, e = .returned v ∧ Rows.digitsBackSpec.post enc Tryd.prog Tryd.f7 false true false false W args v W' := by
  have hW' := hW
  obtain ⟨p, q, hA0, hV, rfl, hfz, hnd⟩ := hW
  have hA : DataW.TrodAll enc Tryd.prog W 0 (fun _ => true) true Tryd.f7.params.toList args.toList ds p := hA0
  rw [Tryd.params7] at hA hval
  obtain ⟨v0, vs0, d0, ds0, p0, q0, hargs, rfl, rfl, h0, r0⟩ := trodAll_cons hA
  obtain ⟨v1, vs1, d1, ds1, p1, q1, rfl, rfl, rfl, h1, r1⟩ := trodAll_cons r0
  obtain ⟨rfl, rfl, rfl⟩ := trodAll_nil r1
  obtain rfl : args = #[v0, v1] := by cases args; simp_all
  obtain ⟨rfl, rfl⟩ := trodVars_none hV
  have hb := bulk_small hk
  simp only [List.append_nil, bulk_cons, bulk_nil] at hb
  have k0 := h0
  have lt0 : ∀ x ∈ p0, x.block < W.heap.size := by obtain ⟨m, hm⟩ := k0; exact DataW.trod_lt m _ _ _ hm
  obtain ⟨x0, rd0, len0⟩ := open_u32s (hval 0 22 v0 rfl rfl) h0
  obtain ⟨a1, rfl, rfl, rfl, wf1⟩ := open_int Tryd.underlying3 (hval 1 3 v1 rfl rfl) h1
  clear hA0
  refine (walk rd0 (by omega) (wf_int wf1)).mono fun e W' ⟨v, he, bel, hv⟩ => ?_
  subst he hv
  exact ⟨_, rfl, _, _, _, [], _, [], hW', trodAll_mk1 (shut_bool Tryd.underlying4 _), (trodAll_cons_mk (Below.trod laidOut (by kernel_rfl) (of_decide_eq_true (by kernel_rfl)) k0 bel lt0) (trodAll_cons_mk (shut_int Tryd.underlying3 wf1) trodAll_mk0)), rfl, bel.frame _, fun h => by cases h⟩

theorem laid_met (os : Os) : laidMet Tryd.prog Rows.digitsBackUptoRow.laid ((laidWorld os).forCall (fun _ _ => 0) ⟨#[], #[.slice none 0 0, .int .i64 0], []⟩).memory :=
  laidMet_of_run' 8 (by kernel_rfl) (by kernel_rfl)
theorem reads (os : Os) {H : Type} (enc : TypeId × Value → H) : ∃ places, DataW.whole enc Tryd.prog ((laidWorld os).forCall (fun _ _ => 0) ⟨#[], #[.slice none 0 0, .int .i64 0], []⟩).memory Tryd.f7.params.toList Rows.digitsBackSpec.vars false (#[.slice none 0 0, .int .i64 0] : Array Value).toList 8 = some ([.nil, .lit (.int .i64 0)], [], places) :=
  ⟨[], by kernel_rfl⟩

set_option maxRecDepth 100000 in
theorem lifted (os : Os) (started : os.Started) (H : Type) (enc : TypeId × Value → H) (F : Stop.Interp) :
    ReturnsInHanded {} Tryd.checked os 7 .any ((Rows.OpenSpec.upto Rows.digitsBackSpec).preRow enc Tryd.prog Tryd.f7 Rows.digitsBackUptoRow.domain false Rows.digitsBackUptoRow.laid) (((Rows.OpenSpec.upto Rows.digitsBackSpec).at F).post enc Tryd.prog Tryd.f7 false true false false) := by
  obtain ⟨places, hx⟩ := reads os enc
  refine returnsInHanded_of_row (C := Tryd.checked) (s := Rows.OpenSpec.upto Rows.digitsBackSpec) own started (by kernel_rfl) Tryd.func7
    (witness_row_at (enc := enc) (C := Tryd.checked) false (laidWorld os) #[.slice none 0 0, .int .i64 0] rfl (by kernel_rfl) (by kernel_rfl) (by kernel_rfl)
      (OpenSpec.preRow_of_cond 8 hx (by kernel_rfl) (fun k hk => by cases hk; kernel_rfl) (by kernel_rfl) (laid_met os))) ?_
  intro W base args ds gs before hval hW _ hcond _ _ _ _
  exact contract H enc W base args ds gs before hval hW (hcond _ rfl)

theorem said : Rows.DigitsBackUptoSaid :=
  OpenClaim.holds_of_cond 7 Tryd.f7 rfl rfl rfl rfl rfl rfl rfl ⟨rfl, rfl, rfl, rfl, rfl⟩ rfl rfl rfl rfl rfl (by kernel_rfl) Tryd.func7 (by kernel_rfl)
    (of_decide_eq_true (by kernel_rfl)) (by unfold Func.isWrapper; first | (rw [if_pos (by decide +kernel)]; kernel_rfl) | (rw [if_neg (by decide +kernel)]; exact ⟨rfl, rfl⟩))
    (fun os started H enc _ F => by rw [OpenClaim.pre_eq_preRow]; exact lifted os started H enc F)

/-- No parameter wants a stand-in; the program's own looks are off: what the card asks. -/
theorem plain (f : FuncId) (fn : Func) (hf : Tryd.pinned.checked.prog.funcNamed "attest/attestlaw04.DigitsBack" = some f) (hfn : Tryd.pinned.checked.prog.funcs[f]? = some fn) :
    false = Tryd.pinned.checked.prog.looks [] ∧ ∀ (j : Nat) t, fn.params[j]? = some t → Tryd.pinned.checked.prog.wantsStandIn t = false := by
  obtain rfl : f = 7 := Option.some.inj ((show Tryd.prog.funcNamed "attest/attestlaw04.DigitsBack" = some 7 by kernel_rfl).symm.trans hf) |>.symm
  obtain rfl : fn = Tryd.f7 := (Option.some.inj (Tryd.func7.symm.trans hfn)).symm
  refine ⟨by kernel_rfl, fun j t ht => ?_⟩
  rw [Tryd.params7] at ht
  have hm : t ∈ #[22, 3] := Array.mem_of_getElem? ht
  simp only [List.mem_toArray, List.mem_cons, List.not_mem_nil, or_false] at hm
  rcases hm with rfl | rfl
  · exact (show Tryd.prog.wantsStandIn 22 = false by kernel_rfl)
  · exact (show Tryd.prog.wantsStandIn 3 = false by kernel_rfl)

/-- The card. -/
theorem proved : Rows.DigitsBackUptoCardSaid :=
  Claim7.holds_tied_plain_at .later [] _ _ _ _ said (fun _ h => by cases h) (by kernel_rfl) (fun _ h => by cases h) digitsBackUpto_row_tie rfl ⟨rfl, rfl⟩ (by kernel_rfl) rfl plain (by kernel_rfl)
#print axioms proved

end Go.Proofs.YtgajpmcjjefghaaDoor.digitsBack
