/- DigitsScale: a number times a power of ten is its digits with that many noughts behind them. Conditions: the arguments hold together at most 1048576 values (the second form, Upto); the two tables of unicode/utf8 hold what the text lays. -/
import Derived.Test.YtgajpmcjjefghaaDoorDoor
import Derived.Test.YtgajpmcjjefghaaDoorPAwake04
import Derived.Test.YtgajpmcjjefghaaDoorPFew04
import Derived.Test.YtgajpmcjjefghaaDoorNatAll
namespace Go.Proofs.YtgajpmcjjefghaaDoor.digitsScale
open Go.ChangeShapes Go.WideShapes Go.ChangeAt Go.RowKit Go.Att

theorem strOf_snoc (xs : List Nat) : strOf xs ++ ⟨#[48]⟩ = strOf (xs ++ [48]) := by
  unfold strOf
  rw [ByteArray.mk_append_mk]
  simp
theorem str_eq_lists (xs ys : List Nat) : (strOf xs == strOf ys) = ((strOf xs).toList == (strOf ys).toList) := beq_toListBytes _ _
theorem lit48 : (⟨#[48]⟩ : ByteArray) = strOf (dtext 0) := by rw [dtext_small (by decide)]; unfold strOf; rfl
theorem lit48l : (⟨#[48]⟩ : ByteArray).toList = [48] := by rw [ByteArray.toList_eq]
theorem dtext_fit (n : Nat) : Fit 256 (dtext n) := fun x hx => by have := dtext_digs n x hx; omega
theorem toList_inj4 {s t : ByteArray} (h : s.toList = t.toList) : s = t := by
  rw [ByteArray.toList_eq, ByteArray.toList_eq] at h
  obtain ⟨⟨x⟩⟩ := s
  obtain ⟨⟨y⟩⟩ := t
  simpa using h
theorem ten_limbs {m : Nat} (h : m ≤ 200) : 10 ^ m < W32 ^ 100 := by
  have h1 : ∀ k, 2 ^ (32 * k) = W32 ^ k := fun k => by rw [Nat.pow_mul]; rfl
  have h2 : 4 * m + 1 ≤ 32 * 100 := by omega
  generalize hk : (100 : Nat) = k at *
  rw [← h1 k]
  exact Nat.lt_of_lt_of_le (pow10_bits m) (Nat.pow_le_pow_right (by decide) h2)
theorem text_len {N : Nat} (h : N < W32 ^ 50) : (dtext N).length ≤ 1000 := by
  have h1 : ∀ k, W32 ^ k ≤ 10 ^ (10 * k) := fun k => by rw [Nat.pow_mul]; exact Nat.pow_le_pow_left (by decide) k
  have h2 : ∀ k, 0 < k → N < W32 ^ k → (dtext N).length ≤ 10 * k := fun k hk hn => dtext_len_le (Nat.lt_of_lt_of_le hn (h1 k)) (by omega)
  exact Nat.le_trans (h2 50 (by decide) h) (by decide)
theorem text_to {w : World} {v : Value} {xs : List Nat} {N : Nat} (hv : RdL w v xs) (hl : xs.length ≤ 1000000) (hN : nv xs = N) :
    Calls Tryd.prog 20 #[v] w (Gives w fun v' _ => v' = .string (strOf (dtext N))) := hN ▸ text_any hv hl
theorem text_zero {n : Nat} (h : n ≠ 0) : ((strOf (dtext n)).toList == [48]) = false := by
  apply Bool.eq_false_iff.2
  intro hb
  have h1 := toList_inj4 (t := ⟨#[48]⟩) ((eq_of_beq hb).trans lit48l.symm)
  rw [lit48] at h1
  exact h (dtext_inj (strOf_inj (dtext_fit _) (dtext_fit _) h1))

set_option maxHeartbeats 2000000 in
theorem walk {w : World} {v : Value} {xs : List Nat} {n : Int} (hv : RdL w v xs) (hl : xs.length ≤ 1048576) (hn : -9223372036854775808 ≤ n ∧ n ≤ 9223372036854775807) :
    Calls Tryd.prog 5 #[v, .int .i64 n] w (Gives w fun v' _ => v' = .bool true) := by
  refine via fun R hR => ?_
  have HV := Lib.hid hv
  have HL : Hid ((xs.take 50).length ≤ 50) := by show _ ≤ _; rw [List.length_take]; exact Nat.min_le_left _ _
  have hF := hv.2.take 50
  obtain ⟨z, hz⟩ : ∃ z, n.tmod 200 = z := ⟨_, rfl⟩
  have hzz : -200 < z ∧ z < 200 := by
    rw [← hz]
    by_cases h : 0 ≤ n
    · rw [Int.tmod_eq_emod_of_nonneg h]; omega
    · have e : n.tmod 200 = -((-n).tmod 200) := by rw [Int.neg_tmod, Int.neg_neg]
      rw [e, Int.tmod_eq_emod_of_nonneg (by omega)]
      omega
  have hz1 := hzz.1
  have hz2 := hzz.2
  have hw : IntKind.i64.wrap z = z := by rw [IntKind.wrap_i64]; omega
  have hw' : wrap64 z = z := by unfold wrap64; omega
  obtain ⟨m, hm⟩ : ∃ m : Nat, m = z.natAbs := ⟨_, rfl⟩
  have hm2 : m < 200 := by omega
  have HTN : Hid (∀ w, Calls Tryd.prog 17 #[.int .i64 m] w (Gives w fun v' w' => ∃ v, v' = .tuple #[v, .int .i64 0] ∧ OwnL 71 w.heap.size w' v (limbs (10 ^ m)))) := fun w => tens_ok (by omega)
  have hpm := ten_limbs (show m ≤ 200 by omega)
  have HLT : Hid ((limbs (10 ^ m)).length ≤ 100) := (digs_len W32 (by decide) _ _).2 hpm
  obtain ⟨N, hN⟩ : ∃ N, N = nv (xs.take 50) := ⟨_, rfl⟩
  have hNl : N < W32 ^ 50 := by
    rw [hN]
    have h1 := val_lt (B := W32) (by decide) hF
    exact Nat.lt_of_lt_of_le h1 (Nat.pow_le_pow_right (by decide) HL.out)
  have HLM : Hid ((limbs (N * 10 ^ m)).length ≤ 150) := (digs_len W32 (by decide) _ _).2 (by
    rw [show (150 : Nat) = 50 + 100 from rfl, Nat.pow_add]
    exact Nat.mul_lt_mul'' hNl hpm)
  have HDL : Hid ((dtext N).length ≤ 1000) := text_len hNl
  have HNN := Lib.hid hN
  clear hpm hNl hF hv hN
  by_cases hzn : z < 0
  · have hd0 : decide (z < 0) = true := decide_eq_true hzn
    have hneg : IntKind.i64.wrap (-z) = (m : Int) := by rw [IntKind.wrap_i64]; omega
    have hneg' : wrap64 (-z) = (m : Int) := by unfold wrap64; omega
    clear hzn hm
    go_enter Tryd.func5, Tryd.ntmps5
    go_wp2_with fail
    refine (few4_any 50 (by decide) HV.out (by omega)).mono ?_
    rintro e w1 ⟨v1, rfl, b1, o1⟩
    have O1 := Lib.hid o1
    clear o1
    go_wp2_with fail
    refine (HTN.out _).mono ?_
    rintro e w2 ⟨_, rfl, b2, v2, rfl, o2⟩
    have O2 := Lib.hid o2
    clear o2
    go_wp2_with fail
    refine (awake04).mono ?_
    rintro e w3 ⟨_, rfl, b3, rfl⟩
    go_wp2_with fail
    refine (Copy_any (O1.out.rd.ext (Ext.trans b2 b3)) (by have := HL.out; omega)).mono ?_
    rintro e w4 ⟨v4, rfl, b4, o4⟩
    have O4 := Lib.hid o4
    clear o4
    go_wp2_with fail
    refine (text_to O4.out.rd (by have := HL.out; omega) HNN.out.symm).mono ?_
    rintro e w5 ⟨_, rfl, b5, rfl⟩
    go_wp2_with fail
    refine (Copy_any (O1.out.rd.ext (Ext.trans b2 (Ext.trans b3 (Ext.trans b4 b5)))) (by have := HL.out; omega)).mono ?_
    rintro e w6 ⟨v6, rfl, b6, o6⟩
    have O6 := Lib.hid o6
    clear o6
    go_wp2_with fail
    refine (mul_any O6.out.rd (O2.out.rd.ext (Ext.trans b3 (Ext.trans b4 (Ext.trans b5 b6)))) (by have := HL.out; omega) (by have := HLT.out; omega)).mono ?_
    rintro e w7 ⟨v7, rfl, b7, o7⟩
    rw [nv_limbs, ← HNN.out] at o7
    have O7 := Lib.hid o7
    clear o7
    go_wp2_with fail
    refine (text_to O7.out.rd (by have := HLM.out; omega) (nv_limbs _)).mono ?_
    rintro e w8 ⟨_, rfl, b8, rfl⟩
    by_cases h0 : N = 0
    · have hz1 : ((strOf (dtext N)).toList == [48]) = true := by rw [h0, ← lit48, lit48l]; rfl
      have hz2 : ((strOf (dtext (N * 10 ^ m))).toList == [48]) = true := by rw [h0, Nat.zero_mul, ← lit48, lit48l]; rfl
      generalize strOf (dtext N) = S1 at *
      generalize strOf (dtext (N * 10 ^ m)) = S2 at *
      go_wp2_with fail
      exact hR.out _ _ (Gives.mk (Ext.trans b1 (Ext.trans b2 (Ext.trans b3 (Ext.trans b4 (Ext.trans b5 (Ext.trans b6 (Ext.trans b7 b8))))))) rfl)
    · have hz1 := text_zero h0
      have HS2 : Hid (strOf (dtext (N * 10 ^ m)) = strOf (dtext N ++ List.replicate m 48)) := by show _ = _; rw [dtext_tens h0]
      have HLN : Hid ((dtext N).length ≤ 1000) := HDL.out
      have HS1 : Hid (strOf (dtext N) = strOf (dtext N ++ List.replicate 0 48)) := by show _ = _; simp
      generalize strOf (dtext N) = S1 at *
      generalize strOf (dtext (N * 10 ^ m)) = S2 at *
      generalize dtext N = D at *
      clear h0
      go_wp2_with fail
      go_loopw [7, 9] (fun s i wr => ∃ k : Nat, i = .int .i64 k ∧ k ≤ m ∧ wr = w8 ∧ ∃ S : ByteArray, s = .string S ∧ Hid (S = strOf (D ++ List.replicate k 48))) (fun _ i _ => m - (intOf i).toNat)
      case atStart => exact ⟨0, rfl, Nat.zero_le _, rfl, S1, rfl, HS1.out⟩
      case round =>
        obtain ⟨k, rfl, hk, rfl, S, rfl, hS⟩ := hrel
        have hsz : S.size ≤ 1200 := by rw [hS.out, strOf_size, List.length_append, List.length_replicate]; have := HLN.out; omega
        by_cases hlt : k < m
        · have hcs : ¬ (S.size + (⟨#[48]⟩ : ByteArray).size > 9223372036854775807) := by have : (⟨#[48]⟩ : ByteArray).size = 1 := rfl; omega
          go_wp2
          go_roundw
          case rel => exact ⟨k + 1, by go_num, by omega, by simp, _, rfl, by show _ = _; rw [hS.out, strOf_snoc, List.append_assoc, ← List.replicate_succ']⟩
          case measure => simp [intOf] <;> omega
        · obtain rfl : k = m := by omega
          have he : S2 = S := HS2.out.trans hS.out.symm
          subst he
          go_wp2_with fail
          exact hR.out _ _ (Gives.mk (Ext.trans b1 (Ext.trans b2 (Ext.trans b3 (Ext.trans b4 (Ext.trans b5 (Ext.trans b6 (Ext.trans b7 b8))))))) rfl)
  · have hzm : z = (m : Int) := by omega
    subst hzm
    have hd0 : decide ((m : Int) < 0) = false := decide_eq_false (by omega)
    clear hzn hm
    go_enter Tryd.func5, Tryd.ntmps5
    go_wp2_with fail
    refine (few4_any 50 (by decide) HV.out (by omega)).mono ?_
    rintro e w1 ⟨v1, rfl, b1, o1⟩
    have O1 := Lib.hid o1
    clear o1
    go_wp2_with fail
    refine (HTN.out _).mono ?_
    rintro e w2 ⟨_, rfl, b2, v2, rfl, o2⟩
    have O2 := Lib.hid o2
    clear o2
    go_wp2_with fail
    refine (awake04).mono ?_
    rintro e w3 ⟨_, rfl, b3, rfl⟩
    go_wp2_with fail
    refine (Copy_any (O1.out.rd.ext (Ext.trans b2 b3)) (by have := HL.out; omega)).mono ?_
    rintro e w4 ⟨v4, rfl, b4, o4⟩
    have O4 := Lib.hid o4
    clear o4
    go_wp2_with fail
    refine (text_to O4.out.rd (by have := HL.out; omega) HNN.out.symm).mono ?_
    rintro e w5 ⟨_, rfl, b5, rfl⟩
    go_wp2_with fail
    refine (Copy_any (O1.out.rd.ext (Ext.trans b2 (Ext.trans b3 (Ext.trans b4 b5)))) (by have := HL.out; omega)).mono ?_
    rintro e w6 ⟨v6, rfl, b6, o6⟩
    have O6 := Lib.hid o6
    clear o6
    go_wp2_with fail
    refine (mul_any O6.out.rd (O2.out.rd.ext (Ext.trans b3 (Ext.trans b4 (Ext.trans b5 b6)))) (by have := HL.out; omega) (by have := HLT.out; omega)).mono ?_
    rintro e w7 ⟨v7, rfl, b7, o7⟩
    rw [nv_limbs, ← HNN.out] at o7
    have O7 := Lib.hid o7
    clear o7
    go_wp2_with fail
    refine (text_to O7.out.rd (by have := HLM.out; omega) (nv_limbs _)).mono ?_
    rintro e w8 ⟨_, rfl, b8, rfl⟩
    by_cases h0 : N = 0
    · have hz1 : ((strOf (dtext N)).toList == [48]) = true := by rw [h0, ← lit48, lit48l]; rfl
      have hz2 : ((strOf (dtext (N * 10 ^ m))).toList == [48]) = true := by rw [h0, Nat.zero_mul, ← lit48, lit48l]; rfl
      generalize strOf (dtext N) = S1 at *
      generalize strOf (dtext (N * 10 ^ m)) = S2 at *
      go_wp2_with fail
      exact hR.out _ _ (Gives.mk (Ext.trans b1 (Ext.trans b2 (Ext.trans b3 (Ext.trans b4 (Ext.trans b5 (Ext.trans b6 (Ext.trans b7 b8))))))) rfl)
    · have hz1 := text_zero h0
      have HS2 : Hid (strOf (dtext (N * 10 ^ m)) = strOf (dtext N ++ List.replicate m 48)) := by show _ = _; rw [dtext_tens h0]
      have HLN : Hid ((dtext N).length ≤ 1000) := HDL.out
      have HS1 : Hid (strOf (dtext N) = strOf (dtext N ++ List.replicate 0 48)) := by show _ = _; simp
      generalize strOf (dtext N) = S1 at *
      generalize strOf (dtext (N * 10 ^ m)) = S2 at *
      generalize dtext N = D at *
      clear h0
      go_wp2_with fail
      go_loopw [7, 9] (fun s i wr => ∃ k : Nat, i = .int .i64 k ∧ k ≤ m ∧ wr = w8 ∧ ∃ S : ByteArray, s = .string S ∧ Hid (S = strOf (D ++ List.replicate k 48))) (fun _ i _ => m - (intOf i).toNat)
      case atStart => exact ⟨0, rfl, Nat.zero_le _, rfl, S1, rfl, HS1.out⟩
      case round =>
        obtain ⟨k, rfl, hk, rfl, S, rfl, hS⟩ := hrel
        have hsz : S.size ≤ 1200 := by rw [hS.out, strOf_size, List.length_append, List.length_replicate]; have := HLN.out; omega
        by_cases hlt : k < m
        · have hcs : ¬ (S.size + (⟨#[48]⟩ : ByteArray).size > 9223372036854775807) := by have : (⟨#[48]⟩ : ByteArray).size = 1 := rfl; omega
          go_wp2
          go_roundw
          case rel => exact ⟨k + 1, by go_num, by omega, by simp, _, rfl, by show _ = _; rw [hS.out, strOf_snoc, List.append_assoc, ← List.replicate_succ']⟩
          case measure => simp [intOf] <;> omega
        · obtain rfl : k = m := by omega
          have he : S2 = S := HS2.out.trans hS.out.symm
          subst he
          go_wp2_with fail
          exact hR.out _ _ (Gives.mk (Ext.trans b1 (Ext.trans b2 (Ext.trans b3 (Ext.trans b4 (Ext.trans b5 (Ext.trans b6 (Ext.trans b7 b8))))))) rfl)
theorem own : ownKnob Tryd.prog.godebug = none := by kernel_rfl
theorem laidOut : laidOutB Tryd.prog = true := by kernel_rfl

set_option maxRecDepth 100000 in
theorem contract (H : Type) (enc : TypeId × Value → H) (W : World) (base : Nat) (args : Array Value) (ds gs : List (DataW H)) (before : List MemPlace)
    (hval : ∀ (j : Nat) t v, Tryd.f5.params[j]? = some t → args[j]? = some v → Value.okWide Tryd.prog W .any base t v)
    (hW : DataW.Whole enc Tryd.prog Tryd.f5.params.toList Rows.digitsScaleSpec.vars false W args.toList ds gs before) (hk : Rows.uptoSmall H (ds ++ gs) = true) :
    Calls Tryd.prog 5 args W fun e W' => ∃ v, e = .returned v ∧ Rows.digitsScaleSpec.post enc Tryd.prog Tryd.f5 false true false false W args v W' := by
  have hW' := hW
  obtain ⟨p, q, hA0, hV, rfl, hfz, hnd⟩ := hW
  have hA : DataW.TrodAll enc Tryd.prog W 0 (fun _ => true) true Tryd.f5.params.toList args.toList ds p := hA0
  rw [Tryd.params5] at hA hval
  obtain ⟨v0, vs0, d0, ds0, p0, q0, hargs, rfl, rfl, h0, r0⟩ := trodAll_cons hA
  obtain ⟨v1, vs1, d1, ds1, p1, q1, rfl, rfl, rfl, h1, r1⟩ := trodAll_cons r0
  obtain ⟨rfl, rfl, rfl⟩ := trodAll_nil r1
  obtain rfl : args = #[v0, v1] := by cases args; simp_all
  obtain ⟨rfl, rfl⟩ := trodVars_none hV
  have hb := bulk_small hk
  simp only [List.append_nil, bulk_cons, bulk_nil] at hb
  have k0 := h0
  have lt0 : ∀ x ∈ p0, x.block < W.heap.size := by obtain ⟨m, hm⟩ := k0; exact DataW.trod_lt m _ _ _ hm
  obtain ⟨x0, rd0, len0⟩ := open_u32s (hval 0 22 v0 rfl rfl) h0
  obtain ⟨a1, rfl, rfl, rfl, wf1⟩ := open_int Tryd.underlying3 (hval 1 3 v1 rfl rfl) h1
  clear hA0
  refine (walk rd0 (by omega) (wf_int wf1)).mono fun e W' ⟨v, he, bel, hv⟩ => ?_
  subst he hv
  exact ⟨_, rfl, _, _, _, [], _, [], hW', trodAll_mk1 (shut_bool Tryd.underlying4 _), (trodAll_cons_mk (Below.trod laidOut (by kernel_rfl) (of_decide_eq_true (by kernel_rfl)) k0 bel lt0) (trodAll_cons_mk (shut_int Tryd.underlying3 wf1) trodAll_mk0)), rfl, bel.frame _, fun h => by cases h⟩

theorem laid_met (os : Os) : laidMet Tryd.prog Rows.digitsScaleUptoRow.laid ((laidWorld os).forCall (fun _ _ => 0) ⟨#[], #[.slice none 0 0, .int .i64 0], []⟩).memory :=
  laidMet_of_run' 8 (by kernel_rfl) (by kernel_rfl)
theorem reads (os : Os) {H : Type} (enc : TypeId × Value → H) : ∃ places, DataW.whole enc Tryd.prog ((laidWorld os).forCall (fun _ _ => 0) ⟨#[], #[.slice none 0 0, .int .i64 0], []⟩).memory Tryd.f5.params.toList Rows.digitsScaleSpec.vars false (#[.slice none 0 0, .int .i64 0] : Array Value).toList 8 = some ([.nil, .lit (.int .i64 0)], [], places) :=
  ⟨[], by kernel_rfl⟩

set_option maxRecDepth 100000 in
theorem lifted (os : Os) (started : os.Started) (H : Type) (enc : TypeId × Value → H) (F : Stop.Interp) :
    ReturnsInHanded {} Tryd.checked os 5 .any ((Rows.OpenSpec.upto Rows.digitsScaleSpec).preRow enc Tryd.prog Tryd.f5 Rows.digitsScaleUptoRow.domain false Rows.digitsScaleUptoRow.laid) (((Rows.OpenSpec.upto Rows.digitsScaleSpec).at F).post enc Tryd.prog Tryd.f5 false true false false) := by
  obtain ⟨places, hx⟩ := reads os enc
  refine returnsInHanded_of_row (C := Tryd.checked) (s := Rows.OpenSpec.upto Rows.digitsScaleSpec) own started (by kernel_rfl) Tryd.func5
    (witness_row_at (enc := enc) (C := Tryd.checked) false (laidWorld os) #[.slice none 0 0, .int .i64 0] rfl (by kernel_rfl) (by kernel_rfl) (by kernel_rfl)
      (OpenSpec.preRow_of_cond 8 hx (by kernel_rfl) (fun k hk => by cases hk; kernel_rfl) (by kernel_rfl) (laid_met os))) ?_
  intro W base args ds gs before hval hW _ hcond _ _ _ _
  exact contract H enc W base args ds gs before hval hW (hcond _ rfl)

theorem said : Rows.DigitsScaleUptoSaid :=
  OpenClaim.holds_of_cond 5 Tryd.f5 rfl rfl rfl rfl rfl rfl rfl ⟨rfl, rfl, rfl, rfl, rfl⟩ rfl rfl rfl rfl rfl (by kernel_rfl) Tryd.func5 (by kernel_rfl)
    (of_decide_eq_true (by kernel_rfl)) (by unfold Func.isWrapper; first | (rw [if_pos (by decide +kernel)]; kernel_rfl) | (rw [if_neg (by decide +kernel)]; exact ⟨rfl, rfl⟩))
    (fun os started H enc _ F => by rw [OpenClaim.pre_eq_preRow]; exact lifted os started H enc F)

/-- No parameter wants a stand-in; the program's own looks are off: what the card asks. -/
theorem plain (f : FuncId) (fn : Func) (hf : Tryd.pinned.checked.prog.funcNamed "attest/attestlaw04.DigitsScale" = some f) (hfn : Tryd.pinned.checked.prog.funcs[f]? = some fn) :
    false = Tryd.pinned.checked.prog.looks [] ∧ ∀ (j : Nat) t, fn.params[j]? = some t → Tryd.pinned.checked.prog.wantsStandIn t = false := by
  obtain rfl : f = 5 := Option.some.inj ((show Tryd.prog.funcNamed "attest/attestlaw04.DigitsScale" = some 5 by kernel_rfl).symm.trans hf) |>.symm
  obtain rfl : fn = Tryd.f5 := (Option.some.inj (Tryd.func5.symm.trans hfn)).symm
  refine ⟨by kernel_rfl, fun j t ht => ?_⟩
  rw [Tryd.params5] at ht
  have hm : t ∈ #[22, 3] := Array.mem_of_getElem? ht
  simp only [List.mem_toArray, List.mem_cons, List.not_mem_nil, or_false] at hm
  rcases hm with rfl | rfl
  · exact (show Tryd.prog.wantsStandIn 22 = false by kernel_rfl)
  · exact (show Tryd.prog.wantsStandIn 3 = false by kernel_rfl)

/-- The card. -/
theorem proved : Rows.DigitsScaleUptoCardSaid :=
  Claim7.holds_tied_plain_at .later [] _ _ _ _ said (fun _ h => by cases h) (by kernel_rfl) (fun _ h => by cases h) digitsScaleUpto_row_tie rfl ⟨rfl, rfl⟩ (by kernel_rfl) rfl plain (by kernel_rfl)
#print axioms proved

end Go.Proofs.YtgajpmcjjefghaaDoor.digitsScale
