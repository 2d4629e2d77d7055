/- RtextDecimals: decimal texts to any count of places are cut off towards 0 as the document says. Conditions: the arguments hold together at most 1048576 values (the second form, Upto); the two tables of unicode/utf8 hold what the text lays. -/
import Derived.Test.YtgajpmcjjefghaaDoorDoor
import Derived.Test.YtgajpmcjjefghaaDoorFrameN
import Derived.Test.YtgajpmcjjefghaaDoorPAwake06
import Derived.Test.YtgajpmcjjefghaaDoorPR6Dec
import Derived.Test.YtgajpmcjjefghaaDoorPBoth06
namespace Go.Proofs.YtgajpmcjjefghaaDoor.rtextDecimals
open Go.ChangeShapes Go.WideShapes Go.ChangeAt Go.RowKit Go.Att

set_option maxHeartbeats 4000000 in
set_option maxRecDepth 100000 in
theorem walk {w : World} {v : Value} {s : Bool} {x y : List Nat} {n : Int} (hv : RdN w v s x y) (hx : x.length ≤ 1048576) (hy : y.length ≤ 1048576) (hn : -9223372036854775808 ≤ n ∧ n ≤ 9223372036854775807) (hm : ∃ m, w.cell? ⟨0, 0, none⟩ = some (.int .i64 m)) :
    Calls Tryd.prog 11 #[v, .int .i64 n] w (Gives w fun v' _ => v' = .bool true) := by
  refine via fun R hR => ?_
  have HV := Lib.hid hv
  have HM : Hid (∀ w', Ext w w' → ∃ m, w'.cell? ⟨0, 0, none⟩ = some (.int .i64 m)) := fun w' x => by
    obtain ⟨m, hm⟩ := hm
    exact ⟨m, x.cell hm⟩
  have SQ : Hid (Sz 8 (qOf s x y)) := by obtain ⟨_, _, _, h1, h2⟩ := hv; exact qOf_sz h1.2 h2.2
  have HBO : Hid (∀ (w : World) (v : Value), RdN w v s x y → Calls Tryd.prog 28 #[v] w (Gives w fun v' w' => ∃ o1 o2, v' = .tuple #[o1, o2] ∧ OwnQ 71 w.heap.size w' o1 (qOf s x y) ∧ OwnP 4 w.heap.size w' o2 (qOf s x y))) := fun w v h => both_any h (by omega) (by omega)
  obtain ⟨t1, t2, rfl, -, -⟩ := hv
  generalize qOf s x y = q at *
  obtain ⟨w1, hw1, b1, c1, -, -⟩ := bx1 w [.bool s, t1, t2] 48
  have C1 := Lib.hid c1
  have HW := Lib.hid hw1
  clear hw1 c1 hm
  go_enter Tryd.func11, Tryd.ntmps11
  go_upto_region 1 with (fail)
  rw [← HW.out]
  clear HW
  obtain ⟨k0, k1, k2⟩ := C1.out.c3
  go_wp2_with fail
  clear k0 k1 k2
  refine (HBO.out _ _ (HV.out.ext b1)).mono ?_
  rintro e w2 ⟨_, rfl, b2, o1, o2, rfl, hO, hP⟩
  obtain ⟨z2, d5, n5, e5, d6, n6, e6, rfl, O7⟩ := hO.op
  obtain ⟨z3, d7, n7, e7, d8, n8, e8, rfl, P7⟩ := hP.op
  clear hO hP
  obtain ⟨w3, hw3, b3, c3, c4, -, -, -⟩ := bx2 w2 [.bool z2, .slice d5 n5 e5, .slice d6 n6 e6] [.bool z3, .slice d7 n7 e7, .slice d8 n8 e8] 50 52
  have HW := Lib.hid hw3
  have C3 := Lib.hid c3
  have C4 := Lib.hid c4
  clear hw3 c3 c4
  go_upto_region 2 with (fail)
  rw [← HW.out]
  clear HW
  have RQ := Lib.hid (O7.out.rd.ext b3)
  have RP := Lib.hid (P7.out.rd.ext b3)
  by_cases h0 : n < 0
  · have hd0 : decide (n < 0) = true := decide_eq_true h0
    obtain ⟨k0, k1, k2⟩ := C3.out.c3
    go_wp2_with fail
    refine (dec_neg RQ.out h0).mono ?_
    rintro e w4 ⟨_, rfl, b4, rfl⟩
    go_wp2_with fail
    refine (awake06 (HM.out _ (Ext.trans b1 (Ext.trans b2 (Ext.trans b3 b4))))).mono ?_
    rintro e w5 ⟨_, rfl, b5, rfl⟩
    obtain ⟨j0, j1, j2⟩ := (C4.out.ext (Ext.trans b4 b5)).c3
    go_wp2_with fail
    exact hR.out _ _ (Gives.mk (Ext.trans b1 (Ext.trans b2 (Ext.trans b3 (Ext.trans b4 b5)))) rfl)
  · have hd0 : decide (n < 0) = false := decide_eq_false h0
    by_cases h1 : 1000 < n
    · have hd1 : decide (1000 < n) = true := decide_eq_true h1
      obtain ⟨k0, k1, k2⟩ := C3.out.c3
      go_wp2_with fail
      refine (dec_big RQ.out h1).mono ?_
      rintro e w4 ⟨_, rfl, b4, rfl⟩
      go_wp2_with fail
      refine (awake06 (HM.out _ (Ext.trans b1 (Ext.trans b2 (Ext.trans b3 b4))))).mono ?_
      rintro e w5 ⟨_, rfl, b5, rfl⟩
      obtain ⟨j0, j1, j2⟩ := (C4.out.ext (Ext.trans b4 b5)).c3
      go_wp2_with fail
      exact hR.out _ _ (Gives.mk (Ext.trans b1 (Ext.trans b2 (Ext.trans b3 (Ext.trans b4 b5)))) rfl)
    · obtain ⟨m, rfl⟩ : ∃ m : Nat, n = m := ⟨n.toNat, by omega⟩
      have hd1 : decide (1000 < (m : Int)) = false := decide_eq_false h1
      have HDE : Hid (Calls Tryd.prog 41 #[.agg #[.bool z2, .slice d5 n5 e5, .slice d6 n6 e6], .int .i64 m] w3 (Gives w3 fun v' _ => v' = .tuple #[.string (strOf (decT q m)), .int .i64 0])) := dec_any m (by omega) RQ.out SQ.out
      have HRE : Hid (∀ w v, RdP w v q → Calls Tryd.prog 42 #[v, .int .i64 m] w (Gives w fun v' _ => v' = .string (strOf (decT q m)))) := fun w v h => r6dec_any m (by omega) h (SQ.out.bits.le (by decide))
      generalize strOf (decT q m) = S at *
      by_cases h2 : 60 < m
      · have hd2 : decide (60 < (m : Int)) = true := decide_eq_true (by omega)
        obtain ⟨k0, k1, k2⟩ := C3.out.c3
        go_wp2_with fail
        refine (HDE.out).mono ?_
        rintro e w4 ⟨_, rfl, b4, rfl⟩
        go_wp2_with fail
        refine (awake06 (HM.out _ (Ext.trans b1 (Ext.trans b2 (Ext.trans b3 b4))))).mono ?_
        rintro e w5 ⟨_, rfl, b5, rfl⟩
        obtain ⟨j0, j1, j2⟩ := (C4.out.ext (Ext.trans b4 b5)).c3
        go_wp2_with fail
        exact hR.out _ _ (Gives.mk (Ext.trans b1 (Ext.trans b2 (Ext.trans b3 (Ext.trans b4 b5)))) rfl)
      · have hd2 : decide (60 < (m : Int)) = false := decide_eq_false (by omega)
        obtain ⟨k0, k1, k2⟩ := C3.out.c3
        go_wp2_with fail
        refine (HDE.out).mono ?_
        rintro e w4 ⟨_, rfl, b4, rfl⟩
        go_wp2_with fail
        refine (awake06 (HM.out _ (Ext.trans b1 (Ext.trans b2 (Ext.trans b3 b4))))).mono ?_
        rintro e w5 ⟨_, rfl, b5, rfl⟩
        obtain ⟨j0, j1, j2⟩ := (C4.out.ext (Ext.trans b4 b5)).c3
        go_wp2_with fail
        refine (HRE.out _ _ (RP.out.ext (Ext.trans b4 b5))).mono ?_
        rintro e w6 ⟨_, rfl, b6, rfl⟩
        go_wp2_with fail
        exact hR.out _ _ (Gives.mk (Ext.trans b1 (Ext.trans b2 (Ext.trans b3 (Ext.trans b4 (Ext.trans b5 b6))))) rfl)
theorem own : ownKnob Tryd.prog.godebug = none := by kernel_rfl
theorem laidOut : laidOutB Tryd.prog = true := by kernel_rfl

set_option maxRecDepth 100000 in
theorem contract (H : Type) (enc : TypeId × Value → H) (W : World) (base : Nat) (args : Array Value) (ds gs : List (DataW H)) (before : List MemPlace)
    (hval : ∀ (j : Nat) t v, Tryd.f11.params[j]? = some t → args[j]? = some v → Value.okWide Tryd.prog W .any base t v)
    (hW : DataW.Whole enc Tryd.prog Tryd.f11.params.toList Rows.rtextDecimalsSpec.vars false W args.toList ds gs before) (hk : Rows.uptoSmall H (ds ++ gs) = true) (hm : ∃ m, W.cell? ⟨0, 0, none⟩ = some (.int .i64 m)) :
    Calls Tryd.prog 11 args W fun e W' => ∃ v, e = .returned v ∧ Rows.rtextDecimalsSpec.post enc Tryd.prog Tryd.f11 false true false false W args v W' := by
  have hW' := hW
  obtain ⟨p, q, hA0, hV, rfl, hfz, hnd⟩ := hW
  have hA : DataW.TrodAll enc Tryd.prog W 0 (fun _ => true) true Tryd.f11.params.toList args.toList ds p := hA0
  rw [Tryd.params11] at hA hval
  obtain ⟨v0, vs0, d0, ds0, p0, q0, hargs, rfl, rfl, h0, r0⟩ := trodAll_cons hA
  obtain ⟨v1, vs1, d1, ds1, p1, q1, rfl, rfl, rfl, h1, r1⟩ := trodAll_cons r0
  obtain ⟨rfl, rfl, rfl⟩ := trodAll_nil r1
  obtain rfl : args = #[v0, v1] := by cases args; simp_all
  obtain ⟨rfl, rfl⟩ := trodVars_none hV
  have hb := bulk_small hk
  simp only [List.append_nil, bulk_cons, bulk_nil] at hb
  have k0 := h0
  have lt0 : ∀ x ∈ p0, x.block < W.heap.size := by obtain ⟨m, hm⟩ := k0; exact DataW.trod_lt m _ _ _ hm
  obtain ⟨s0, x0, y0, rd0, len0⟩ := open_N (hval 0 48 v0 rfl rfl) h0
  obtain ⟨a1, rfl, rfl, rfl, wf1⟩ := open_int Tryd.underlying3 (hval 1 3 v1 rfl rfl) h1
  clear hA0
  refine (walk rd0 (by omega) (by omega) (wf_int wf1) hm).mono fun e W' ⟨v, he, bel, hv⟩ => ?_
  subst he hv
  exact ⟨_, rfl, _, _, _, [], _, [], hW', trodAll_mk1 (shut_bool Tryd.underlying4 _), (trodAll_cons_mk (Below.trod laidOut (by kernel_rfl) (of_decide_eq_true (by kernel_rfl)) k0 bel lt0) (trodAll_cons_mk (shut_int Tryd.underlying3 wf1) trodAll_mk0)), rfl, bel.frame _, fun h => by cases h⟩

theorem laid_met (os : Os) : laidMet Tryd.prog Rows.rtextDecimalsUptoRow.laid ((laidWorld os).forCall (fun _ _ => 0) ⟨#[], #[.agg #[.bool false, .slice none 0 0, .slice none 0 0], .int .i64 0], []⟩).memory :=
  laidMet_of_run' 8 (by kernel_rfl) (by kernel_rfl)
theorem reads (os : Os) {H : Type} (enc : TypeId × Value → H) : ∃ places, DataW.whole enc Tryd.prog ((laidWorld os).forCall (fun _ _ => 0) ⟨#[], #[.agg #[.bool false, .slice none 0 0, .slice none 0 0], .int .i64 0], []⟩).memory Tryd.f11.params.toList Rows.rtextDecimalsSpec.vars false (#[.agg #[.bool false, .slice none 0 0, .slice none 0 0], .int .i64 0] : Array Value).toList 8 = some ([.agg [.lit (.bool false), .nil, .nil], .lit (.int .i64 0)], [], places) :=
  ⟨[], by kernel_rfl⟩

set_option maxRecDepth 100000 in
theorem lifted (os : Os) (started : os.Started) (H : Type) (enc : TypeId × Value → H) (F : Stop.Interp) :
    ReturnsInHanded {} Tryd.checked os 11 .any ((Rows.OpenSpec.upto Rows.rtextDecimalsSpec).preRow enc Tryd.prog Tryd.f11 Rows.rtextDecimalsUptoRow.domain false Rows.rtextDecimalsUptoRow.laid) (((Rows.OpenSpec.upto Rows.rtextDecimalsSpec).at F).post enc Tryd.prog Tryd.f11 false true false false) := by
  obtain ⟨places, hx⟩ := reads os enc
  refine returnsInHanded_of_row (C := Tryd.checked) (s := Rows.OpenSpec.upto Rows.rtextDecimalsSpec) own started (by kernel_rfl) Tryd.func11
    (witness_row_at (enc := enc) (C := Tryd.checked) false (laidWorld os) #[.agg #[.bool false, .slice none 0 0, .slice none 0 0], .int .i64 0] rfl (by kernel_rfl) (by kernel_rfl) (by kernel_rfl)
      (OpenSpec.preRow_of_cond 8 hx (by kernel_rfl) (fun k hk => by cases hk; kernel_rfl) (by kernel_rfl) (laid_met os))) ?_
  intro W base args ds gs before hval hW _ hcond _ _ hsh _
  exact contract H enc W base args ds gs before hval hW (hcond _ rfl) (Tryd.maxLen_cell hsh)

theorem said : Rows.RtextDecimalsUptoSaid :=
  OpenClaim.holds_of_cond 11 Tryd.f11 rfl rfl rfl rfl rfl rfl rfl ⟨rfl, rfl, rfl, rfl, rfl⟩ rfl rfl rfl rfl rfl (by kernel_rfl) Tryd.func11 (by kernel_rfl)
    (of_decide_eq_true (by kernel_rfl)) (by unfold Func.isWrapper; first | (rw [if_pos (by decide +kernel)]; kernel_rfl) | (rw [if_neg (by decide +kernel)]; exact ⟨rfl, rfl⟩))
    (fun os started H enc _ F => by rw [OpenClaim.pre_eq_preRow]; exact lifted os started H enc F)

/-- No parameter wants a stand-in; the program's own looks are off: what the card asks. -/
theorem plain (f : FuncId) (fn : Func) (hf : Tryd.pinned.checked.prog.funcNamed "attest/attestlaw06.RtextDecimals" = some f) (hfn : Tryd.pinned.checked.prog.funcs[f]? = some fn) :
    false = Tryd.pinned.checked.prog.looks [] ∧ ∀ (j : Nat) t, fn.params[j]? = some t → Tryd.pinned.checked.prog.wantsStandIn t = false := by
  obtain rfl : f = 11 := Option.some.inj ((show Tryd.prog.funcNamed "attest/attestlaw06.RtextDecimals" = some 11 by kernel_rfl).symm.trans hf) |>.symm
  obtain rfl : fn = Tryd.f11 := (Option.some.inj (Tryd.func11.symm.trans hfn)).symm
  refine ⟨by kernel_rfl, fun j t ht => ?_⟩
  rw [Tryd.params11] at ht
  have hm : t ∈ #[48, 3] := Array.mem_of_getElem? ht
  simp only [List.mem_toArray, List.mem_cons, List.not_mem_nil, or_false] at hm
  rcases hm with rfl | rfl
  · exact (show Tryd.prog.wantsStandIn 48 = false by kernel_rfl)
  · exact (show Tryd.prog.wantsStandIn 3 = false by kernel_rfl)

/-- The card. -/
theorem proved : Rows.RtextDecimalsUptoCardSaid :=
  Claim7.holds_tied_plain_at .later [] _ _ _ _ said (fun _ h => by cases h) (by kernel_rfl) (fun _ h => by cases h) rtextDecimalsUpto_row_tie rfl ⟨rfl, rfl⟩ (by kernel_rfl) rfl plain (by kernel_rfl)
#print axioms proved

end Go.Proofs.YtgajpmcjjefghaaDoor.rtextDecimals
