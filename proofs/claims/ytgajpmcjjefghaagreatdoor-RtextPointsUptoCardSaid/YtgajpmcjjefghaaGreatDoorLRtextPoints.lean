/- RtextPoints: a number that has a finite decimal fraction gets just that, and one that has none is told so. Conditions: the arguments hold together at most 1048576 values (the second form, Upto); the two tables of unicode/utf8 hold what the text lays. -/
import Derived.Test.YtgajpmcjjefghaaGreatDoorDoor
import Derived.Test.YtgajpmcjjefghaaGreatDoorFrameN
import Derived.Test.YtgajpmcjjefghaaGreatDoorPAwake06
import Derived.Test.YtgajpmcjjefghaaGreatDoorPRtPlaces
import Derived.Test.YtgajpmcjjefghaaGreatDoorPBoth06
import Derived.Test.YtgajpmcjjefghaaGreatDoorPRcmpTo
namespace Go.Proofs.YtgajpmcjjefghaaGreatDoor.rtextPoints
open Go.ChangeShapes Go.WideShapes Go.ChangeAt Go.RowKit Go.Att

set_option maxHeartbeats 4000000 in
set_option maxRecDepth 100000 in
theorem walk {w : World} {v : Value} {s : Bool} {x y : List Nat} (hv : RdN w v s x y) (hx : x.length ≤ 1048576) (hy : y.length ≤ 1048576) (hm : ∃ m, w.cell? ⟨0, 0, none⟩ = some (.int .i64 m)) :
    Calls Tryz.prog 3 #[v] w (Gives w fun v' _ => v' = .bool true) := by
  refine via fun R hR => ?_
  have HV := Lib.hid hv
  have HM : Hid (∀ w', Ext w w' → ∃ m, w'.cell? ⟨0, 0, none⟩ = some (.int .i64 m)) := fun w' x => by
    obtain ⟨m, hm⟩ := hm
    exact ⟨m, x.cell hm⟩
  have SQ : Hid (Sz 8 (qOf s x y)) := by obtain ⟨_, _, _, h1, h2⟩ := hv; exact qOf_sz h1.2 h2.2
  have HBO : Hid (∀ (w : World) (v : Value), RdN w v s x y → Calls Tryz.prog 5 #[v] w (Gives w fun v' w' => ∃ o1 o2, v' = .tuple #[o1, o2] ∧ OwnQ 57 w.heap.size w' o1 (qOf s x y) ∧ OwnP 4 w.heap.size w' o2 (qOf s x y))) := fun w v h => both_any h (by omega) (by omega)
  obtain ⟨t1, t2, rfl, -, -⟩ := hv
  generalize qOf s x y = q at *
  obtain ⟨w1, hw1, b1, c1, -, -⟩ := bx1 w [.bool s, t1, t2] 24
  have C1 := Lib.hid c1
  have HW := Lib.hid hw1
  clear hw1 c1 hm
  go_enter Tryz.func3, Tryz.ntmps3
  go_upto_region 1 with (fail)
  rw [← HW.out]
  clear HW
  obtain ⟨k0, k1, k2⟩ := C1.out.c3
  go_wp2_with fail
  clear k0 k1 k2
  refine (HBO.out _ _ (HV.out.ext b1)).mono ?_
  rintro e w2 ⟨_, rfl, b2, o1, o2, rfl, hO, hP⟩
  obtain ⟨z2, d5, n5, e5, d6, n6, e6, rfl, O7⟩ := hO.op
  obtain ⟨z3, d7, n7, e7, d8, n8, e8, rfl, P7⟩ := hP.op
  clear hO hP
  obtain ⟨w3, hw3, b3, c3, c4, -, -, -⟩ := bx2 w2 [.bool z2, .slice d5 n5 e5, .slice d6 n6 e6] [.bool z3, .slice d7 n7 e7, .slice d8 n8 e8] 26 29
  have HW := Lib.hid hw3
  have C3 := Lib.hid c3
  have C4 := Lib.hid c4
  clear hw3 c3 c4
  go_upto_region 2 with (fail)
  rw [← HW.out]
  clear HW
  have RQ := Lib.hid (O7.out.rd.ext b3)
  have RP := Lib.hid (P7.out.rd.ext b3)
  have HTR : Hid (∀ w', Ext w w' → R (.returned (.bool true)) w') := fun w' x => hR.out _ _ (Gives.mk x rfl)
  clear hR
  have R6 : Hid (∀ w v, RdP w v q → Calls Tryz.prog 9 #[v, .int .i64 30] w (Gives w fun v' _ => ∃ o, IsPl 30 q.den o ∧ PlR v' o)) := fun w v h => r6places_any 30 (by decide) h (SQ.out.bits.le (by decide))
  obtain ⟨k0, k1, k2⟩ := C3.out.c3
  go_wp2_with fail
  refine (places_any RQ.out (SQ.out.le (by decide))).mono ?_
  rintro e w4 ⟨_, rfl, b4, o, ho, hv⟩
  have HO := Lib.hid ho
  clear ho k0 k1 k2
  have hpt := point_any (RQ.out.ext b4) SQ.out
  cases o with
  | none =>
    obtain rfl := hv
    obtain ⟨k0, k1, k2⟩ := (C3.out.ext b4).c3
    go_wp2_with fail
    refine hpt.mono ?_
    rintro e w5 ⟨_, rfl, b5, o2, ho2, hv⟩
    obtain rfl : none = o2 := HO.out.uniq ho2
    obtain rfl := hv
    clear ho2 k0 k1 k2
    go_wp2_with fail
    refine (awake06 (HM.out _ (Ext.trans b1 (Ext.trans b2 (Ext.trans b3 (Ext.trans b4 b5)))))).mono ?_
    rintro e w6 ⟨_, rfl, b6, rfl⟩
    obtain ⟨j0, j1, j2⟩ := (C4.out.ext (Ext.trans b4 (Ext.trans b5 b6))).c3
    go_wp2_with fail
    refine (R6.out _ _ (RP.out.ext (Ext.trans b4 (Ext.trans b5 b6)))).mono ?_
    rintro e w7 ⟨_, rfl, b7, o3, ho3, hv⟩
    cases o3 with
    | some m => exact absurd ho3.2.1 (HO.out m (Nat.le_trans ho3.1 (by decide)))
    | none =>
      obtain rfl := hv
      clear ho3 j0 j1 j2
      go_wp2_with fail
      exact HTR.out _ (Ext.trans b1 (Ext.trans b2 (Ext.trans b3 (Ext.trans b4 (Ext.trans b5 (Ext.trans b6 b7))))))
  | some n =>
    obtain rfl := hv
    obtain ⟨k0, k1, k2⟩ := (C3.out.ext b4).c3
    go_wp2_with fail
    refine hpt.mono ?_
    rintro e w5 ⟨_, rfl, b5, o2, ho2, hv⟩
    obtain rfl : some n = o2 := HO.out.uniq ho2
    obtain rfl := hv
    clear ho2 k0 k1 k2
    have hn := HO.out.1
    have HPA : Hid (∀ w', Ext w w' → Calls Tryz.prog 11 #[.string (strOf (decT q n))] w' (Gives w' fun v' w'' => ∃ o, v' = .tuple #[o, .int .i64 0] ∧ OwnQ 57 0 w'' o q)) := fun w' x => by
      have h := rtparse_any (w := w') (decT_fit q n) (decT_len SQ.out hn) (HM.out _ x)
      rw [read_dec, dec_exact HO.out.2.1] at h
      exact h
    have HCP : Hid (∀ w va vb, RdQ w va q → RdQ w vb q → Calls Tryz.prog 12 #[va, vb] w (Gives w fun v' _ => v' = .int .i64 0)) := fun w va vb h1 h2 => rcmp_to7 h1 h2 (SQ.out.le (by decide)) (SQ.out.le (by decide)) (by rw [Rat.sub_self]; rfl)
    have HRE : Hid (∀ w v, RdP w v q → Calls Tryz.prog 10 #[v, .int .i64 n] w (Gives w fun v' _ => v' = .string (strOf (decT q n)))) := fun w v h => r6dec_any n hn h (SQ.out.bits.le (by decide))
    generalize strOf (decT q n) = S at *
    go_wp2_with fail
    refine (awake06 (HM.out _ (Ext.trans b1 (Ext.trans b2 (Ext.trans b3 (Ext.trans b4 b5)))))).mono ?_
    rintro e w6 ⟨_, rfl, b6, rfl⟩
    obtain ⟨j0, j1, j2⟩ := (C4.out.ext (Ext.trans b4 (Ext.trans b5 b6))).c3
    go_wp2_with fail
    refine (R6.out _ _ (RP.out.ext (Ext.trans b4 (Ext.trans b5 b6)))).mono ?_
    rintro e w7 ⟨_, rfl, b7, o3, ho3, hv⟩
    clear j0 j1 j2
    cases o3 with
    | some m =>
      obtain rfl := hv
      obtain rfl : n = m := Option.some.inj (HO.out.uniq (show IsPl 1000 q.den (some m) from ⟨Nat.le_trans ho3.1 (by decide), ho3.2⟩))
      clear ho3 hpt
      obtain ⟨j0, j1, j2⟩ := (C4.out.ext (Ext.trans b4 (Ext.trans b5 (Ext.trans b6 b7)))).c3
      go_wp2_with fail
      refine (HRE.out _ _ (RP.out.ext (Ext.trans b4 (Ext.trans b5 (Ext.trans b6 b7))))).mono ?_
      rintro e w8 ⟨_, rfl, b8, rfl⟩
      go_wp2_with fail
      exact HTR.out _ (Ext.trans b1 (Ext.trans b2 (Ext.trans b3 (Ext.trans b4 (Ext.trans b5 (Ext.trans b6 (Ext.trans b7 b8)))))))
    | none =>
      obtain rfl := hv
      have h30 : 30 < n := by
        refine Nat.lt_of_not_le fun h => ?_
        exact ho3 n h HO.out.2.1
      have hd30 : decide (30 < (n : Int)) = true := decide_eq_true (by omega)
      clear ho3 hpt
      go_wp2_with fail
      refine (HPA.out _ (Ext.trans b1 (Ext.trans b2 (Ext.trans b3 (Ext.trans b4 (Ext.trans b5 (Ext.trans b6 b7))))))).mono ?_
      rintro e w8 ⟨_, rfl, b8, o, rfl, o1⟩
      obtain ⟨z4, d4, n4, e4, d9, n9, e9, rfl, Q4⟩ := o1.op
      clear o1
      obtain ⟨w9, hw, b9, c1, -, -⟩ := bx1 w8 [.bool z4, .slice d4 n4 e4, .slice d9 n9 e9] 26
      have HW := Lib.hid hw
      have C9 := Lib.hid c1
      clear hw c1
      go_upto_region 12 with (fail)
      rw [← HW.out]
      clear HW
      obtain ⟨k0, k1, k2⟩ := (C3.out.ext (Ext.trans b4 (Ext.trans b5 (Ext.trans b6 (Ext.trans b7 (Ext.trans b8 b9)))))).c3
      obtain ⟨j0, j1, j2⟩ := C9.out.c3
      go_wp2_with fail
      refine (HCP.out _ _ _ (Q4.out.rd.ext b9) (RQ.out.ext (Ext.trans b4 (Ext.trans b5 (Ext.trans b6 (Ext.trans b7 (Ext.trans b8 b9))))))).mono ?_
      rintro e w10 ⟨_, rfl, b10, rfl⟩
      go_wp2_with fail
      exact HTR.out _ (Ext.trans b1 (Ext.trans b2 (Ext.trans b3 (Ext.trans b4 (Ext.trans b5 (Ext.trans b6 (Ext.trans b7 (Ext.trans b8 (Ext.trans b9 b10)))))))))
theorem own : ownKnob Tryz.prog.godebug = none := by kernel_rfl
theorem laidOut : laidOutB Tryz.prog = true := by kernel_rfl

set_option maxRecDepth 100000 in
theorem contract (H : Type) (enc : TypeId × Value → H) (W : World) (base : Nat) (args : Array Value) (ds gs : List (DataW H)) (before : List MemPlace)
    (hval : ∀ (j : Nat) t v, Tryz.f3.params[j]? = some t → args[j]? = some v → Value.okWide Tryz.prog W .any base t v)
    (hW : DataW.Whole enc Tryz.prog Tryz.f3.params.toList Rows.rtextPointsSpec.vars false W args.toList ds gs before) (hk : Rows.uptoSmall H (ds ++ gs) = true) (hm : ∃ m, W.cell? ⟨0, 0, none⟩ = some (.int .i64 m)) :
    Calls Tryz.prog 3 args W fun e W' => ∃ v, e = .returned v ∧ Rows.rtextPointsSpec.post enc Tryz.prog Tryz.f3 false true false false W args v W' := by
  have hW' := hW
  obtain ⟨p, q, hA0, hV, rfl, hfz, hnd⟩ := hW
  have hA : DataW.TrodAll enc Tryz.prog W 0 (fun _ => true) true Tryz.f3.params.toList args.toList ds p := hA0
  rw [Tryz.params3] at hA hval
  obtain ⟨v0, vs0, d0, ds0, p0, q0, hargs, rfl, rfl, h0, r0⟩ := trodAll_cons hA
  obtain ⟨rfl, rfl, rfl⟩ := trodAll_nil r0
  obtain rfl : args = #[v0] := by cases args; simp_all
  obtain ⟨rfl, rfl⟩ := trodVars_none hV
  have hb := bulk_small hk
  simp only [List.append_nil, bulk_cons, bulk_nil] at hb
  have k0 := h0
  have lt0 : ∀ x ∈ p0, x.block < W.heap.size := by obtain ⟨m, hm⟩ := k0; exact DataW.trod_lt m _ _ _ hm
  obtain ⟨s0, x0, y0, rd0, len0⟩ := open_N (hval 0 24 v0 rfl rfl) h0
  clear hA0
  refine (walk rd0 (by omega) (by omega) hm).mono fun e W' ⟨v, he, bel, hv⟩ => ?_
  subst he hv
  exact ⟨_, rfl, _, _, _, [], _, [], hW', trodAll_mk1 (shut_bool Tryz.underlying4 _), (trodAll_cons_mk (Below.trod laidOut (by kernel_rfl) (of_decide_eq_true (by kernel_rfl)) k0 bel lt0) trodAll_mk0), rfl, bel.frame _, fun h => by cases h⟩

theorem laid_met (os : Os) : laidMet Tryz.prog Rows.rtextPointsUptoRow.laid ((laidWorld os).forCall (fun _ _ => 0) ⟨#[], #[.agg #[.bool false, .slice none 0 0, .slice none 0 0]], []⟩).memory :=
  laidMet_of_run' 8 (by kernel_rfl) (by kernel_rfl)
theorem reads (os : Os) {H : Type} (enc : TypeId × Value → H) : ∃ places, DataW.whole enc Tryz.prog ((laidWorld os).forCall (fun _ _ => 0) ⟨#[], #[.agg #[.bool false, .slice none 0 0, .slice none 0 0]], []⟩).memory Tryz.f3.params.toList Rows.rtextPointsSpec.vars false (#[.agg #[.bool false, .slice none 0 0, .slice none 0 0]] : Array Value).toList 8 = some ([.agg [.lit (.bool false), .nil, .nil]], [], places) :=
  ⟨[], by kernel_rfl⟩

set_option maxRecDepth 100000 in
theorem lifted (os : Os) (started : os.Started) (H : Type) (enc : TypeId × Value → H) (F : Stop.Interp) :
    ReturnsInHanded {} Tryz.checked os 3 .any ((Rows.OpenSpec.upto Rows.rtextPointsSpec).preRow enc Tryz.prog Tryz.f3 Rows.rtextPointsUptoRow.domain false Rows.rtextPointsUptoRow.laid) (((Rows.OpenSpec.upto Rows.rtextPointsSpec).at F).post enc Tryz.prog Tryz.f3 false true false false) := by
  obtain ⟨places, hx⟩ := reads os enc
  refine returnsInHanded_of_row (C := Tryz.checked) (s := Rows.OpenSpec.upto Rows.rtextPointsSpec) own started (by kernel_rfl) Tryz.func3
    (witness_row_at (enc := enc) (C := Tryz.checked) false (laidWorld os) #[.agg #[.bool false, .slice none 0 0, .slice none 0 0]] rfl (by kernel_rfl) (by kernel_rfl) (by kernel_rfl)
      (OpenSpec.preRow_of_cond 8 hx (by kernel_rfl) (fun k hk => by cases hk; kernel_rfl) (by kernel_rfl) (laid_met os))) ?_
  intro W base args ds gs before hval hW _ hcond _ _ hsh _
  exact contract H enc W base args ds gs before hval hW (hcond _ rfl) (Tryz.maxLen_cell hsh)

theorem said : Rows.RtextPointsUptoSaid :=
  OpenClaim.holds_of_cond 3 Tryz.f3 rfl rfl rfl rfl rfl rfl rfl ⟨rfl, rfl, rfl, rfl, rfl⟩ rfl rfl rfl rfl rfl (by kernel_rfl) Tryz.func3 (by kernel_rfl)
    (of_decide_eq_true (by kernel_rfl)) (by unfold Func.isWrapper; first | (rw [if_pos (by decide +kernel)]; kernel_rfl) | (rw [if_neg (by decide +kernel)]; exact ⟨rfl, rfl⟩))
    (fun os started H enc _ F => by rw [OpenClaim.pre_eq_preRow]; exact lifted os started H enc F)

/-- No parameter wants a stand-in; the program's own looks are off: what the card asks. -/
theorem plain (f : FuncId) (fn : Func) (hf : Tryz.pinned.checked.prog.funcNamed "attest/attestlaw06.RtextPoints" = some f) (hfn : Tryz.pinned.checked.prog.funcs[f]? = some fn) :
    false = Tryz.pinned.checked.prog.looks [] ∧ ∀ (j : Nat) t, fn.params[j]? = some t → Tryz.pinned.checked.prog.wantsStandIn t = false := by
  obtain rfl : f = 3 := Option.some.inj ((show Tryz.prog.funcNamed "attest/attestlaw06.RtextPoints" = some 3 by kernel_rfl).symm.trans hf) |>.symm
  obtain rfl : fn = Tryz.f3 := (Option.some.inj (Tryz.func3.symm.trans hfn)).symm
  refine ⟨by kernel_rfl, fun j t ht => ?_⟩
  rw [Tryz.params3] at ht
  have hm : t ∈ #[24] := Array.mem_of_getElem? ht
  simp only [List.mem_toArray, List.mem_cons, List.not_mem_nil, or_false] at hm
  subst hm
  exact (show Tryz.prog.wantsStandIn 24 = false by kernel_rfl)

/-- The card. -/
theorem proved : Rows.RtextPointsUptoCardSaid :=
  Claim7.holds_tied_plain_at .later [] _ _ _ _ said (fun _ h => by cases h) (by kernel_rfl) (fun _ h => by cases h) rtextPointsUpto_row_tie rfl ⟨rfl, rfl⟩ (by kernel_rfl) rfl plain (by kernel_rfl)
#print axioms proved

end Go.Proofs.YtgajpmcjjefghaaGreatDoor.rtextPoints
