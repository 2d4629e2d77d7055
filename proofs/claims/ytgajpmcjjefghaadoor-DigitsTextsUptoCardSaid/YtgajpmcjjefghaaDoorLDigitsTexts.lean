/- DigitsTexts: a natural's decimal text is right, and padded to any length with noughts in front. Conditions: the arguments hold together at most 1048576 values (the second form, Upto); the two tables of unicode/utf8 hold what the text lays. -/
import Derived.Test.YtgajpmcjjefghaaDoorDoor
import Derived.Test.YtgajpmcjjefghaaDoorPAwake04
import Derived.Test.YtgajpmcjjefghaaDoorPFew04
import Derived.Test.YtgajpmcjjefghaaDoorPRef4Text
import Derived.Test.YtgajpmcjjefghaaDoorRefAll
import Derived.Laws.DeepStrings4
namespace Go.Proofs.YtgajpmcjjefghaaDoor.digitsTexts
open Go.ChangeShapes Go.WideShapes Go.ChangeAt Go.RowKit Go.Att

theorem text_len {N : Nat} (h : N < W32 ^ 20) : (dtext N).length ≤ 1000 := by
  have h1 : ∀ k, W32 ^ k ≤ 10 ^ (10 * k) := fun k => by rw [Nat.pow_mul]; exact Nat.pow_le_pow_left (by decide) k
  have h2 : ∀ k, 0 < k → N < W32 ^ k → (dtext N).length ≤ 10 * k := fun k hk hn => dtext_len_le (Nat.lt_of_lt_of_le hn (h1 k)) (by omega)
  exact Nat.le_trans (h2 20 (by decide) h) (by decide)
theorem bits_20 {N : Nat} (h : N < W32 ^ 20) : (bitsOf N).length ≤ 640 := by
  have h2 : ∀ k, N < W32 ^ k → (bitsOf N).length ≤ 32 * k := fun k h => (bitsOf_len N _).2 (by rw [Nat.pow_mul]; exact h)
  exact h2 20 h
theorem text_to {w : World} {v : Value} {xs : List Nat} {N : Nat} (hv : RdL w v xs) (hl : xs.length ≤ 1000000) (hN : nv xs = N) :
    Calls Tryd.prog 20 #[v] w (Gives w fun v' _ => v' = .string (strOf (dtext N))) := hN ▸ text_any hv hl
theorem count_to {w : World} {v : Value} {xs : List Nat} {N : Nat} (hv : RdL w v xs) (hl : xs.length ≤ 1000000) (hN : nv xs = N) :
    Calls Tryd.prog 26 #[v] w (Gives w fun v' _ => v' = .int .i64 (dtext N).length) := hN ▸ count_any hv hl
theorem pad_to {w : World} {v : Value} {xs : List Nat} {N : Nat} {n : Int} (h0 : 0 ≤ n) (h1 : n ≤ 20000) (hv : RdL w v xs) (hl : xs.length ≤ 1000) (hN : nv xs = N) :
    Calls Tryd.prog 25 #[v, .int .i64 n] w (Gives w fun v' _ => v' = .tuple #[.string (strOf (padded n (dtext N))), .int .i64 0]) := hN ▸ pad_any h0 h1 hv hl
theorem strOf_tail (xs : List Nat) (c : Nat) (n : Nat) (hn : n = xs.length) : (strOf xs).extract c n = strOf (xs.drop c) := by
  subst hn
  unfold strOf
  apply ByteArray.ext
  simp [ByteArray.data_extract]
  exact List.take_of_length_le (by simp)
/-- What the padded text is. -/
theorem pad_facts (D : List Nat) (hf : Fit 256 D) (m : Nat) : ∃ (P : ByteArray) (c M : Nat), strOf (padded (m : Int) D) = P ∧ P.size = M ∧ c + D.length = M ∧ c = m - D.length ∧ P.extract c M = strOf D ∧ ∀ i (h : i < P.size), i < c → P[i]'h = 48 := by
  refine ⟨_, m - D.length, (m - D.length) + D.length, rfl, ?_, rfl, rfl, ?_, fun i h hi => ?_⟩
  · rw [strOf_size]
    unfold padded
    rw [List.length_append, List.length_replicate, Int.toNat_natCast]
  · unfold padded
    rw [strOf_tail _ _ _ (by rw [List.length_append, List.length_replicate, Int.toNat_natCast]), Int.toNat_natCast, List.drop_left' (by rw [List.length_replicate])]
  · have hfp : Fit 256 (padded (m : Int) D) := fun x hx => by
      unfold padded at hx
      rcases List.mem_append.1 hx with h | h
      · rw [List.eq_of_mem_replicate h]; decide
      · exact hf x h
    have h1 := strOf_at hfp h
    have h2 : nth (padded (m : Int) D) i = 48 := by
      unfold padded nth
      rw [Int.toNat_natCast]
      simp only [List.getD, List.getElem?_append_left (show i < (List.replicate (m - D.length) 48).length by rw [List.length_replicate]; exact hi), List.getElem?_replicate, if_pos hi]
      rfl
    rw [h2] at h1
    exact UInt8.toNat_inj.1 h1
set_option maxHeartbeats 4000000 in
set_option maxRecDepth 100000 in
theorem walk {w : World} {v : Value} {xs : List Nat} {n : Int} (hv : RdL w v xs) (hl : xs.length ≤ 1048576) (hn : -9223372036854775808 ≤ n ∧ n ≤ 9223372036854775807) :
    Calls Tryd.prog 6 #[v, .int .i64 n] w (Gives w fun v' _ => v' = .bool true) := by
  refine via fun R hR => ?_
  have HV := Lib.hid hv
  have HL : Hid ((xs.take 20).length ≤ 20) := by show _ ≤ _; rw [List.length_take]; exact Nat.min_le_left _ _
  have hF := hv.2.take 20
  obtain ⟨N, hN⟩ : ∃ N, nv (xs.take 20) = N := ⟨_, rfl⟩
  have hNl : N < W32 ^ 20 := by
    rw [← hN]
    have h1 := val_lt (B := W32) (by decide) hF
    exact Nat.lt_of_lt_of_le h1 (Nat.pow_le_pow_right (by decide) HL.out)
  have HDL : Hid ((dtext N).length ≤ 1000) := text_len hNl
  have HNB : Hid ((bitsOf N).length ≤ 640) := bits_20 hNl
  have HNN := Lib.hid hN
  clear hNl hF hv hN
  by_cases h0 : n < 0
  · have hd0 : decide (n < 0) = true := decide_eq_true h0
    go_enter Tryd.func6, Tryd.ntmps6
    go_wp2_with fail
    refine (few4_any 20 (by decide) HV.out (by omega)).mono ?_
    rintro e w1 ⟨v1, rfl, b1, o1⟩
    have O1 := Lib.hid o1
    clear o1
    go_wp2_with fail
    refine (Of_any O1.out.rd (by have := HL.out; omega)).mono ?_
    rintro e w2 ⟨v2, rfl, b2, o2⟩
    rw [HNN.out] at o2
    have O2 := Lib.hid o2
    clear o2
    go_wp2_with fail
    refine (r4text_any O2.out.rd (by have := HNB.out; omega) (by have := HDL.out; omega)).mono ?_
    rintro e w3 ⟨_, rfl, b3, rfl⟩
    go_wp2_with fail
    refine (Copy_any (O1.out.rd.ext (Ext.trans b2 b3)) (by have := HL.out; omega)).mono ?_
    rintro e w4 ⟨v4, rfl, b4, o4⟩
    have O4 := Lib.hid o4
    clear o4
    go_wp2_with fail
    refine (pad_neg h0).mono ?_
    rintro e w5 ⟨_, rfl, b5, rfl⟩
    go_wp2_with fail
    refine (awake04).mono ?_
    rintro e w6 ⟨_, rfl, b6, rfl⟩
    go_wp2_with fail
    refine (Copy_any (O1.out.rd.ext (Ext.trans b2 (Ext.trans b3 (Ext.trans b4 (Ext.trans b5 b6))))) (by have := HL.out; omega)).mono ?_
    rintro e w7 ⟨v7, rfl, b7, o7⟩
    have O7 := Lib.hid o7
    clear o7
    go_wp2_with fail
    refine (text_to O7.out.rd (by have := HL.out; omega) HNN.out).mono ?_
    rintro e w8 ⟨_, rfl, b8, rfl⟩
    have HTX : Hid (∀ w v, RdL w v (xs.take 20) → Calls Tryd.prog 26 #[v] w (Gives w fun v' _ => v' = .int .i64 (dtext N).length)) := fun w v h => count_to h (by have := HL.out; omega) HNN.out
    have hss : (strOf (dtext N)).size = (dtext N).length := strOf_size _
    skip
    generalize strOf (dtext N) = S at *
    generalize (dtext N).length = L at *
    go_wp2_with fail
    refine (Copy_any (O1.out.rd.ext (Ext.trans b2 (Ext.trans b3 (Ext.trans b4 (Ext.trans b5 (Ext.trans b6 (Ext.trans b7 b8))))))) (by have := HL.out; omega)).mono ?_
    rintro e w9 ⟨v9, rfl, b9, o9⟩
    have O9 := Lib.hid o9
    clear o9
    go_wp2_with fail
    refine (HTX.out _ _ O9.out.rd).mono ?_
    rintro e w10 ⟨_, rfl, b10, rfl⟩
    go_wp2_with fail
    exact hR.out _ _ (Gives.mk (Ext.trans b1 (Ext.trans b2 (Ext.trans b3 (Ext.trans b4 (Ext.trans b5 (Ext.trans b6 (Ext.trans b7 (Ext.trans b8 (Ext.trans b9 b10))))))))) rfl)
  · have hd0 : decide (n < 0) = false := decide_eq_false h0
    by_cases h1 : 20000 < n
    · have hd1 : decide (20000 < n) = true := decide_eq_true h1
      go_enter Tryd.func6, Tryd.ntmps6
      go_wp2_with fail
      refine (few4_any 20 (by decide) HV.out (by omega)).mono ?_
      rintro e w1 ⟨v1, rfl, b1, o1⟩
      have O1 := Lib.hid o1
      clear o1
      go_wp2_with fail
      refine (Of_any O1.out.rd (by have := HL.out; omega)).mono ?_
      rintro e w2 ⟨v2, rfl, b2, o2⟩
      rw [HNN.out] at o2
      have O2 := Lib.hid o2
      clear o2
      go_wp2_with fail
      refine (r4text_any O2.out.rd (by have := HNB.out; omega) (by have := HDL.out; omega)).mono ?_
      rintro e w3 ⟨_, rfl, b3, rfl⟩
      go_wp2_with fail
      refine (Copy_any (O1.out.rd.ext (Ext.trans b2 b3)) (by have := HL.out; omega)).mono ?_
      rintro e w4 ⟨v4, rfl, b4, o4⟩
      have O4 := Lib.hid o4
      clear o4
      go_wp2_with fail
      refine (pad_big h1).mono ?_
      rintro e w5 ⟨_, rfl, b5, rfl⟩
      go_wp2_with fail
      refine (awake04).mono ?_
      rintro e w6 ⟨_, rfl, b6, rfl⟩
      go_wp2_with fail
      refine (Copy_any (O1.out.rd.ext (Ext.trans b2 (Ext.trans b3 (Ext.trans b4 (Ext.trans b5 b6))))) (by have := HL.out; omega)).mono ?_
      rintro e w7 ⟨v7, rfl, b7, o7⟩
      have O7 := Lib.hid o7
      clear o7
      go_wp2_with fail
      refine (text_to O7.out.rd (by have := HL.out; omega) HNN.out).mono ?_
      rintro e w8 ⟨_, rfl, b8, rfl⟩
      have HTX : Hid (∀ w v, RdL w v (xs.take 20) → Calls Tryd.prog 26 #[v] w (Gives w fun v' _ => v' = .int .i64 (dtext N).length)) := fun w v h => count_to h (by have := HL.out; omega) HNN.out
      have hss : (strOf (dtext N)).size = (dtext N).length := strOf_size _
      skip
      generalize strOf (dtext N) = S at *
      generalize (dtext N).length = L at *
      go_wp2_with fail
      refine (Copy_any (O1.out.rd.ext (Ext.trans b2 (Ext.trans b3 (Ext.trans b4 (Ext.trans b5 (Ext.trans b6 (Ext.trans b7 b8))))))) (by have := HL.out; omega)).mono ?_
      rintro e w9 ⟨v9, rfl, b9, o9⟩
      have O9 := Lib.hid o9
      clear o9
      go_wp2_with fail
      refine (HTX.out _ _ O9.out.rd).mono ?_
      rintro e w10 ⟨_, rfl, b10, rfl⟩
      go_wp2_with fail
      exact hR.out _ _ (Gives.mk (Ext.trans b1 (Ext.trans b2 (Ext.trans b3 (Ext.trans b4 (Ext.trans b5 (Ext.trans b6 (Ext.trans b7 (Ext.trans b8 (Ext.trans b9 b10))))))))) rfl)
    · have hd1 : decide (20000 < n) = false := decide_eq_false h1
      obtain ⟨m, rfl⟩ := Int.eq_ofNat_of_zero_le (show 0 ≤ n by omega)
      have hm : m ≤ 20000 := by omega
      clear h0 h1 hn
      go_enter Tryd.func6, Tryd.ntmps6
      go_wp2_with fail
      refine (few4_any 20 (by decide) HV.out (by omega)).mono ?_
      rintro e w1 ⟨v1, rfl, b1, o1⟩
      have O1 := Lib.hid o1
      clear o1
      go_wp2_with fail
      refine (Of_any O1.out.rd (by have := HL.out; omega)).mono ?_
      rintro e w2 ⟨v2, rfl, b2, o2⟩
      rw [HNN.out] at o2
      have O2 := Lib.hid o2
      clear o2
      go_wp2_with fail
      refine (r4text_any O2.out.rd (by have := HNB.out; omega) (by have := HDL.out; omega)).mono ?_
      rintro e w3 ⟨_, rfl, b3, rfl⟩
      go_wp2_with fail
      refine (Copy_any (O1.out.rd.ext (Ext.trans b2 b3)) (by have := HL.out; omega)).mono ?_
      rintro e w4 ⟨v4, rfl, b4, o4⟩
      have O4 := Lib.hid o4
      clear o4
      go_wp2_with fail
      refine (pad_to (by omega) (by omega) O4.out.rd (by have := HL.out; omega) HNN.out).mono ?_
      obtain ⟨P, c, M, hP, hps, hcM, hcm, hpx, hpb⟩ := pad_facts (dtext N) (dtext_fit N) m
      rw [hP]
      clear hP
      have HPB := Lib.hid hpb
      have HPX := Lib.hid hpx
      have HPS := Lib.hid hps
      have HCM := Lib.hid hcM
      have HCm := Lib.hid hcm
      clear hpb hpx hps hcM hcm
      rintro e w5 ⟨_, rfl, b5, rfl⟩
      go_wp2_with fail
      refine (awake04).mono ?_
      rintro e w6 ⟨_, rfl, b6, rfl⟩
      go_wp2_with fail
      refine (Copy_any (O1.out.rd.ext (Ext.trans b2 (Ext.trans b3 (Ext.trans b4 (Ext.trans b5 b6))))) (by have := HL.out; omega)).mono ?_
      rintro e w7 ⟨v7, rfl, b7, o7⟩
      have O7 := Lib.hid o7
      clear o7
      go_wp2_with fail
      refine (text_to O7.out.rd (by have := HL.out; omega) HNN.out).mono ?_
      rintro e w8 ⟨_, rfl, b8, rfl⟩
      have HTX : Hid (∀ w v, RdL w v (xs.take 20) → Calls Tryd.prog 26 #[v] w (Gives w fun v' _ => v' = .int .i64 (dtext N).length)) := fun w v h => count_to h (by have := HL.out; omega) HNN.out
      have hss : (strOf (dtext N)).size = (dtext N).length := strOf_size _
      skip
      generalize strOf (dtext N) = S at *
      generalize (dtext N).length = L at *
      go_wp2_with fail
      refine (Copy_any (O1.out.rd.ext (Ext.trans b2 (Ext.trans b3 (Ext.trans b4 (Ext.trans b5 (Ext.trans b6 (Ext.trans b7 b8))))))) (by have := HL.out; omega)).mono ?_
      rintro e w9 ⟨v9, rfl, b9, o9⟩
      have O9 := Lib.hid o9
      clear o9
      go_wp2_with fail
      refine (HTX.out _ _ O9.out.rd).mono ?_
      rintro e w10 ⟨_, rfl, b10, rfl⟩
      have hps := HPS.out
      have hsub : (M : Int) - (L : Int) = (c : Int) := by have := HCM.out; omega
      have hmx : max (m : Int) (L : Int) = (M : Int) := by
        have := HCM.out
        have := HCm.out
        omega
      have hpx := HPX.out
      have hMb : M ≤ 100000 := by have := HCM.out; have := HCm.out; have := HDL.out; omega
      have hLM : L ≤ M := by have := HCM.out; omega
      go_wp2_with fail
      go_loopw [8] (fun i wr => ∃ k : Nat, i = .int .i64 k ∧ k ≤ c ∧ w10 = wr) (fun i _ => c - (intOf i).toNat)
      case atStart => exact ⟨0, rfl, Nat.zero_le _, rfl⟩
      case round =>
        obtain ⟨k, rfl, hk, rfl⟩ := hrel
        have hcM : c ≤ M := by have := HCM.out; omega
        by_cases hlt : k < c
        · have hkP : k < P.size := by have := HPS.out; omega
          have hx := HPB.out k hkP hlt
          have hkM : k < M := by omega
          go_wp2_with fail
          go_roundw
          case rel => exact ⟨k + 1, by go_num, by omega, by simp⟩
          case measure => simp [intOf] <;> omega
        · go_wp2_with fail
          exact hR.out _ _ (Gives.mk (Ext.trans b1 (Ext.trans b2 (Ext.trans b3 (Ext.trans b4 (Ext.trans b5 (Ext.trans b6 (Ext.trans b7 (Ext.trans b8 (Ext.trans b9 b10))))))))) rfl)
theorem own : ownKnob Tryd.prog.godebug = none := by kernel_rfl
theorem laidOut : laidOutB Tryd.prog = true := by kernel_rfl

set_option maxRecDepth 100000 in
theorem contract (H : Type) (enc : TypeId × Value → H) (W : World) (base : Nat) (args : Array Value) (ds gs : List (DataW H)) (before : List MemPlace)
    (hval : ∀ (j : Nat) t v, Tryd.f6.params[j]? = some t → args[j]? = some v → Value.okWide Tryd.prog W .any base t v)
    (hW : DataW.Whole enc Tryd.prog Tryd.f6.params.toList Rows.digitsTextsSpec.vars false W args.toList ds gs before) (hk : Rows.uptoSmall H (ds ++ gs) = true) :
    Calls Tryd.prog 6 args W fun e W' => ∃ v, e = .returned v ∧ Rows.digitsTextsSpec.post enc Tryd.prog Tryd.f6 false true false false W args v W' := by
  have hW' := hW
  obtain ⟨p, q, hA0, hV, rfl, hfz, hnd⟩ := hW
  have hA : DataW.TrodAll enc Tryd.prog W 0 (fun _ => true) true Tryd.f6.params.toList args.toList ds p := hA0
  rw [Tryd.params6] at hA hval
  obtain ⟨v0, vs0, d0, ds0, p0, q0, hargs, rfl, rfl, h0, r0⟩ := trodAll_cons hA
  obtain ⟨v1, vs1, d1, ds1, p1, q1, rfl, rfl, rfl, h1, r1⟩ := trodAll_cons r0
  obtain ⟨rfl, rfl, rfl⟩ := trodAll_nil r1
  obtain rfl : args = #[v0, v1] := by cases args; simp_all
  obtain ⟨rfl, rfl⟩ := trodVars_none hV
  have hb := bulk_small hk
  simp only [List.append_nil, bulk_cons, bulk_nil] at hb
  have k0 := h0
  have lt0 : ∀ x ∈ p0, x.block < W.heap.size := by obtain ⟨m, hm⟩ := k0; exact DataW.trod_lt m _ _ _ hm
  obtain ⟨x0, rd0, len0⟩ := open_u32s (hval 0 22 v0 rfl rfl) h0
  obtain ⟨a1, rfl, rfl, rfl, wf1⟩ := open_int Tryd.underlying3 (hval 1 3 v1 rfl rfl) h1
  clear hA0
  refine (walk rd0 (by omega) (wf_int wf1)).mono fun e W' ⟨v, he, bel, hv⟩ => ?_
  subst he hv
  exact ⟨_, rfl, _, _, _, [], _, [], hW', trodAll_mk1 (shut_bool Tryd.underlying4 _), (trodAll_cons_mk (Below.trod laidOut (by kernel_rfl) (of_decide_eq_true (by kernel_rfl)) k0 bel lt0) (trodAll_cons_mk (shut_int Tryd.underlying3 wf1) trodAll_mk0)), rfl, bel.frame _, fun h => by cases h⟩

theorem laid_met (os : Os) : laidMet Tryd.prog Rows.digitsTextsUptoRow.laid ((laidWorld os).forCall (fun _ _ => 0) ⟨#[], #[.slice none 0 0, .int .i64 0], []⟩).memory :=
  laidMet_of_run' 8 (by kernel_rfl) (by kernel_rfl)
theorem reads (os : Os) {H : Type} (enc : TypeId × Value → H) : ∃ places, DataW.whole enc Tryd.prog ((laidWorld os).forCall (fun _ _ => 0) ⟨#[], #[.slice none 0 0, .int .i64 0], []⟩).memory Tryd.f6.params.toList Rows.digitsTextsSpec.vars false (#[.slice none 0 0, .int .i64 0] : Array Value).toList 8 = some ([.nil, .lit (.int .i64 0)], [], places) :=
  ⟨[], by kernel_rfl⟩

set_option maxRecDepth 100000 in
theorem lifted (os : Os) (started : os.Started) (H : Type) (enc : TypeId × Value → H) (F : Stop.Interp) :
    ReturnsInHanded {} Tryd.checked os 6 .any ((Rows.OpenSpec.upto Rows.digitsTextsSpec).preRow enc Tryd.prog Tryd.f6 Rows.digitsTextsUptoRow.domain false Rows.digitsTextsUptoRow.laid) (((Rows.OpenSpec.upto Rows.digitsTextsSpec).at F).post enc Tryd.prog Tryd.f6 false true false false) := by
  obtain ⟨places, hx⟩ := reads os enc
  refine returnsInHanded_of_row (C := Tryd.checked) (s := Rows.OpenSpec.upto Rows.digitsTextsSpec) own started (by kernel_rfl) Tryd.func6
    (witness_row_at (enc := enc) (C := Tryd.checked) false (laidWorld os) #[.slice none 0 0, .int .i64 0] rfl (by kernel_rfl) (by kernel_rfl) (by kernel_rfl)
      (OpenSpec.preRow_of_cond 8 hx (by kernel_rfl) (fun k hk => by cases hk; kernel_rfl) (by kernel_rfl) (laid_met os))) ?_
  intro W base args ds gs before hval hW _ hcond _ _ _ _
  exact contract H enc W base args ds gs before hval hW (hcond _ rfl)

theorem said : Rows.DigitsTextsUptoSaid :=
  OpenClaim.holds_of_cond 6 Tryd.f6 rfl rfl rfl rfl rfl rfl rfl ⟨rfl, rfl, rfl, rfl, rfl⟩ rfl rfl rfl rfl rfl (by kernel_rfl) Tryd.func6 (by kernel_rfl)
    (of_decide_eq_true (by kernel_rfl)) (by unfold Func.isWrapper; first | (rw [if_pos (by decide +kernel)]; kernel_rfl) | (rw [if_neg (by decide +kernel)]; exact ⟨rfl, rfl⟩))
    (fun os started H enc _ F => by rw [OpenClaim.pre_eq_preRow]; exact lifted os started H enc F)

/-- No parameter wants a stand-in; the program's own looks are off: what the card asks. -/
theorem plain (f : FuncId) (fn : Func) (hf : Tryd.pinned.checked.prog.funcNamed "attest/attestlaw04.DigitsTexts" = some f) (hfn : Tryd.pinned.checked.prog.funcs[f]? = some fn) :
    false = Tryd.pinned.checked.prog.looks [] ∧ ∀ (j : Nat) t, fn.params[j]? = some t → Tryd.pinned.checked.prog.wantsStandIn t = false := by
  obtain rfl : f = 6 := Option.some.inj ((show Tryd.prog.funcNamed "attest/attestlaw04.DigitsTexts" = some 6 by kernel_rfl).symm.trans hf) |>.symm
  obtain rfl : fn = Tryd.f6 := (Option.some.inj (Tryd.func6.symm.trans hfn)).symm
  refine ⟨by kernel_rfl, fun j t ht => ?_⟩
  rw [Tryd.params6] at ht
  have hm : t ∈ #[22, 3] := Array.mem_of_getElem? ht
  simp only [List.mem_toArray, List.mem_cons, List.not_mem_nil, or_false] at hm
  rcases hm with rfl | rfl
  · exact (show Tryd.prog.wantsStandIn 22 = false by kernel_rfl)
  · exact (show Tryd.prog.wantsStandIn 3 = false by kernel_rfl)

/-- The card. -/
theorem proved : Rows.DigitsTextsUptoCardSaid :=
  Claim7.holds_tied_plain_at .later [] _ _ _ _ said (fun _ h => by cases h) (by kernel_rfl) (fun _ h => by cases h) digitsTextsUpto_row_tie rfl ⟨rfl, rfl⟩ (by kernel_rfl) rfl plain (by kernel_rfl)
#print axioms proved

end Go.Proofs.YtgajpmcjjefghaaDoor.digitsTexts
