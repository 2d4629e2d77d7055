/- RtextPrints: the plain text and the SMT-LIB term of every rational number are right. Conditions: the arguments hold together at most 1048576 values (the second form, Upto); the two tables of unicode/utf8 hold what the text lays. -/
import Derived.Test.YtgajpmcjjefghaaDoorDoor
import Derived.Test.YtgajpmcjjefghaaDoorFrameN
import Derived.Test.YtgajpmcjjefghaaDoorPAwake06
import Derived.Test.YtgajpmcjjefghaaDoorPR6text
import Derived.Test.YtgajpmcjjefghaaDoorPBoth06
namespace Go.Proofs.YtgajpmcjjefghaaDoor.rtextPrints
open Go.ChangeShapes Go.WideShapes Go.ChangeAt Go.RowKit Go.Att

set_option maxHeartbeats 4000000 in
set_option maxRecDepth 100000 in
theorem walk {w : World} {v : Value} {s : Bool} {x y : List Nat} (hv : RdN w v s x y) (hx : x.length ≤ 1048576) (hy : y.length ≤ 1048576) (hm : ∃ m, w.cell? ⟨0, 0, none⟩ = some (.int .i64 m)) :
    Calls Tryd.prog 8 #[v] w (Gives w fun v' _ => v' = .bool true) := by
  refine via fun R hR => ?_
  have HV := Lib.hid hv
  have HM : Hid (∀ w', Ext w w' → ∃ m, w'.cell? ⟨0, 0, none⟩ = some (.int .i64 m)) := fun w' x => by
    obtain ⟨m, hm⟩ := hm
    exact ⟨m, x.cell hm⟩
  have SQ : Hid (Sz 8 (qOf s x y)) := by obtain ⟨_, _, _, h1, h2⟩ := hv; exact qOf_sz h1.2 h2.2
  have HBO : Hid (∀ (w : World) (v : Value), RdN w v s x y → Calls Tryd.prog 28 #[v] w (Gives w fun v' w' => ∃ o1 o2, v' = .tuple #[o1, o2] ∧ OwnQ 71 w.heap.size w' o1 (qOf s x y) ∧ OwnP 4 w.heap.size w' o2 (qOf s x y))) := fun w v h => both_any h (by omega) (by omega)
  obtain ⟨t1, t2, rfl, -, -⟩ := hv
  generalize qOf s x y = q at *
  obtain ⟨w1, hw1, b1, c1, -, -⟩ := bx1 w [.bool s, t1, t2] 48
  have C1 := Lib.hid c1
  have HW := Lib.hid hw1
  clear hw1 c1 hm
  go_enter Tryd.func8, Tryd.ntmps8
  go_upto_region 1 with (fail)
  rw [← HW.out]
  clear HW
  obtain ⟨k0, k1, k2⟩ := C1.out.c3
  go_wp2_with fail
  clear k0 k1 k2
  refine (HBO.out _ _ (HV.out.ext b1)).mono ?_
  rintro e w2 ⟨_, rfl, b2, o1, o2, rfl, hO, hP⟩
  obtain ⟨z2, d5, n5, e5, d6, n6, e6, rfl, O7⟩ := hO.op
  obtain ⟨z3, d7, n7, e7, d8, n8, e8, rfl, P7⟩ := hP.op
  clear hO hP
  obtain ⟨w3, hw3, b3, c3, c4, -, -, -⟩ := bx2 w2 [.bool z2, .slice d5 n5 e5, .slice d6 n6 e6] [.bool z3, .slice d7 n7 e7, .slice d8 n8 e8] 50 52
  have HW := Lib.hid hw3
  have C3 := Lib.hid c3
  have C4 := Lib.hid c4
  clear hw3 c3 c4
  go_upto_region 2 with (fail)
  rw [← HW.out]
  clear HW
  have RQ := Lib.hid (O7.out.rd.ext b3)
  have RP := Lib.hid (P7.out.rd.ext b3)
  have S1 : Hid (Sz 100000 q) := SQ.out.le (by decide)
  have S2 : Hid (Sb 500000 q) := SQ.out.bits.le (by decide)
  have H1 : Hid (∀ w v, RdQ w v q → Calls Tryd.prog 30 #[v] w (Gives w fun v' _ => v' = .string (strOf (printT q)))) := fun w v h => print6_any h S1.out
  have H2 : Hid (∀ w v, RdQ w v q → Calls Tryd.prog 32 #[v] w (Gives w fun v' _ => v' = .string (strOf (smtT q)))) := fun w v h => smt6_any h S1.out
  have H3 : Hid (∀ w v, RdP w v q → Calls Tryd.prog 31 #[v] w (Gives w fun v' _ => v' = .string (strOf (printT q)))) := fun w v h => r6print_any h S2.out
  have H4 : Hid (∀ w v, RdP w v q → Calls Tryd.prog 33 #[v] w (Gives w fun v' _ => v' = .string (strOf (smtT q)))) := fun w v h => r6smt_any h S2.out
  have b03 := (Ext.trans b1 (Ext.trans b2 b3))
  generalize strOf (printT q) = P at *
  generalize strOf (smtT q) = M at *
  have b4 := drew_ext w3
  have XE := b4
  refine wp_region_noPanic ?_
  refine wp_region_held_drew (S := fun w' => (w'.cell? ⟨w2.heap.size, 0, none⟩ = some (.bool z2) ∧ w'.cell? ⟨w2.heap.size, 1, none⟩ = some (.slice d5 n5 e5) ∧ w'.cell? ⟨w2.heap.size, 2, none⟩ = some (.slice d6 n6 e6)) ∧ (w'.cell? ⟨w2.heap.size + 1, 0, none⟩ = some (.bool z3) ∧ w'.cell? ⟨w2.heap.size + 1, 1, none⟩ = some (.slice d7 n7 e7) ∧ w'.cell? ⟨w2.heap.size + 1, 2, none⟩ = some (.slice d8 n8 e8))) (by kernel_rfl) (⟨(C3.out.ext XE).c3, (C4.out.ext XE).c3⟩) (fun hHeld => ?_)
  refine wpAnyH_ready (rs := [0]) (by kernel_rfl) (by simp) ?_
  refine AllReadyH.cons (o := _) rfl (fun K hK => ?_) AllReadyH.nil
  go_simp
  go_at_call 29; refine (awake06 (HM.out _ (Ext.trans b03 XE))).mono ?_; rintro e w5 ⟨_, rfl, b5, rfl⟩; (first | have XE := Ext.trans XE b5 | have XE := Ext.trans (Ext.trans XE (Ext.alloc _ _)) b5)
  go_wp2_with fail
  refine hK.out _ _ (⟨(C3.out.ext XE).c3, (C4.out.ext XE).c3⟩) (fun hHeld => ?_)
  clear hK K
  try simp only [Act.put, List.getElem_toArray, List.getElem_cons_succ, List.getElem_cons_zero, List.setIfInBounds_toArray, List.set_cons_zero, List.set_cons_succ]
  refine wpAnyH_take (i := 1) (v := ?_) rfl (by kernel_rfl) (by kernel_rfl) (by kernel_rfl) (fun _ _ _ h => h) (Or.inl ⟨by rfl, fun w0 hSw => ?_⟩) hHeld ?_
  rotate_left
  · (try dsimp only at hSw)
    go_simp
    try with_reducible rfl
  simp only [Act.put, List.getElem_toArray, List.getElem_cons_succ, List.getElem_cons_zero, List.setIfInBounds_toArray, List.set_cons_zero, List.set_cons_succ]
  refine wpAnyH_take (i := 2) (v := ?_) rfl (by kernel_rfl) (by kernel_rfl) (by kernel_rfl) (fun _ _ _ h => h) (Or.inl ⟨by rfl, fun w0 hSw => ?_⟩) hHeld ?_
  rotate_left
  · (try dsimp only at hSw)
    go_simp
    try with_reducible rfl
  simp only [Act.put, List.getElem_toArray, List.getElem_cons_succ, List.getElem_cons_zero, List.setIfInBounds_toArray, List.set_cons_zero, List.set_cons_succ]
  refine wpAnyH_take (i := 4) (v := ?_) rfl (by kernel_rfl) (by kernel_rfl) (by kernel_rfl) (fun _ _ _ h => h) (Or.inl ⟨by rfl, fun w0 hSw => ?_⟩) hHeld ?_
  rotate_left
  · (try dsimp only at hSw)
    go_simp
    try with_reducible rfl
  simp only [Act.put, List.getElem_toArray, List.getElem_cons_succ, List.getElem_cons_zero, List.setIfInBounds_toArray, List.set_cons_zero, List.set_cons_succ]
  refine wpAnyH_ready (rs := [3]) (by kernel_rfl) (by simp) ?_
  refine AllReadyH.cons (o := _) rfl (fun K hK => ?_) AllReadyH.nil
  go_simp
  go_at_call 30; refine (H1.out _ _ (RQ.out.ext XE)).mono ?_; rintro e w6 ⟨_, rfl, b6, rfl⟩; (first | have XE := Ext.trans XE b6 | have XE := Ext.trans (Ext.trans XE (Ext.alloc _ _)) b6)
  go_wp2_with fail
  refine hK.out _ _ (⟨(C3.out.ext XE).c3, (C4.out.ext XE).c3⟩) (fun hHeld => ?_)
  clear hK K
  try simp only [Act.put, List.getElem_toArray, List.getElem_cons_succ, List.getElem_cons_zero, List.setIfInBounds_toArray, List.set_cons_zero, List.set_cons_succ]
  refine wpAnyH_ready (rs := [5]) (by kernel_rfl) (by simp) ?_
  refine AllReadyH.cons (o := _) rfl (fun K hK => ?_) AllReadyH.nil
  go_simp
  go_at_call 31; refine (H3.out _ _ (RP.out.ext XE)).mono ?_; rintro e w7 ⟨_, rfl, b7, rfl⟩; (first | have XE := Ext.trans XE b7 | have XE := Ext.trans (Ext.trans XE (Ext.alloc _ _)) b7)
  go_wp2_with fail
  refine hK.out _ _ (⟨(C3.out.ext XE).c3, (C4.out.ext XE).c3⟩) (fun hHeld => ?_)
  clear hK K
  try simp only [Act.put, List.getElem_toArray, List.getElem_cons_succ, List.getElem_cons_zero, List.setIfInBounds_toArray, List.set_cons_zero, List.set_cons_succ]
  refine wpAnyH_take (i := 6) (v := ?_) rfl (by kernel_rfl) (by kernel_rfl) (by kernel_rfl) (fun _ _ _ h => h) (Or.inl ⟨by rfl, fun w0 hSw => ?_⟩) hHeld ?_
  rotate_left
  · (try dsimp only at hSw)
    go_simp
    try with_reducible rfl
  simp only [Act.put, List.getElem_toArray, List.getElem_cons_succ, List.getElem_cons_zero, List.setIfInBounds_toArray, List.set_cons_zero, List.set_cons_succ]
  refine wpAnyH_take (i := 7) (v := ?_) rfl (by kernel_rfl) (by kernel_rfl) (by kernel_rfl) (fun _ _ _ h => h) (Or.inl ⟨by rfl, fun w0 hSw => ?_⟩) hHeld ?_
  rotate_left
  · (try dsimp only at hSw)
    go_simp
    try with_reducible rfl
  simp only [Act.put, List.getElem_toArray, List.getElem_cons_succ, List.getElem_cons_zero, List.setIfInBounds_toArray, List.set_cons_zero, List.set_cons_succ]
  refine wpAnyH_take (i := 8) (v := ?_) rfl (by kernel_rfl) (by kernel_rfl) (by kernel_rfl) (fun _ _ _ h => h) (Or.inl ⟨by rfl, fun w0 hSw => ?_⟩) hHeld ?_
  rotate_left
  · (try dsimp only at hSw)
    go_simp
    try with_reducible rfl
  simp only [Act.put, List.getElem_toArray, List.getElem_cons_succ, List.getElem_cons_zero, List.setIfInBounds_toArray, List.set_cons_zero, List.set_cons_succ]
  refine wpAnyH_take (i := 9) (v := ?_) rfl (by kernel_rfl) (by kernel_rfl) (by kernel_rfl) (fun _ _ _ h => h) (Or.inl ⟨by rfl, fun w0 hSw => ?_⟩) hHeld ?_
  rotate_left
  · (try dsimp only at hSw)
    go_simp
    try with_reducible rfl
  simp only [Act.put, List.getElem_toArray, List.getElem_cons_succ, List.getElem_cons_zero, List.setIfInBounds_toArray, List.set_cons_zero, List.set_cons_succ]
  refine wpAnyH_take (i := 11) (v := ?_) rfl (by kernel_rfl) (by kernel_rfl) (by kernel_rfl) (fun _ _ _ h => h) (Or.inl ⟨by rfl, fun w0 hSw => ?_⟩) hHeld ?_
  rotate_left
  · (try dsimp only at hSw)
    go_simp
    try with_reducible rfl
  simp only [Act.put, List.getElem_toArray, List.getElem_cons_succ, List.getElem_cons_zero, List.setIfInBounds_toArray, List.set_cons_zero, List.set_cons_succ]
  refine wpAnyH_ready (rs := [10]) (by kernel_rfl) (by simp) ?_
  refine AllReadyH.cons (o := _) rfl (fun K hK => ?_) AllReadyH.nil
  go_simp
  go_at_call 32; refine (H2.out _ _ (RQ.out.ext XE)).mono ?_; rintro e w8 ⟨_, rfl, b8, rfl⟩; (first | have XE := Ext.trans XE b8 | have XE := Ext.trans (Ext.trans XE (Ext.alloc _ _)) b8)
  go_wp2_with fail
  refine hK.out _ _ (⟨(C3.out.ext XE).c3, (C4.out.ext XE).c3⟩) (fun hHeld => ?_)
  clear hK K
  try simp only [Act.put, List.getElem_toArray, List.getElem_cons_succ, List.getElem_cons_zero, List.setIfInBounds_toArray, List.set_cons_zero, List.set_cons_succ]
  refine wpAnyH_ready (rs := [12]) (by kernel_rfl) (by simp) ?_
  refine AllReadyH.cons (o := _) rfl (fun K hK => ?_) AllReadyH.nil
  go_simp
  go_at_call 33; refine (H4.out _ _ (RP.out.ext XE)).mono ?_; rintro e w9 ⟨_, rfl, b9, rfl⟩; (first | have XE := Ext.trans XE b9 | have XE := Ext.trans (Ext.trans XE (Ext.alloc _ _)) b9)
  go_wp2_with fail
  refine hK.out _ _ (⟨(C3.out.ext XE).c3, (C4.out.ext XE).c3⟩) (fun hHeld => ?_)
  clear hK K
  try simp only [Act.put, List.getElem_toArray, List.getElem_cons_succ, List.getElem_cons_zero, List.setIfInBounds_toArray, List.set_cons_zero, List.set_cons_succ]
  refine wpAnyH_take (i := 13) (v := ?_) rfl (by kernel_rfl) (by kernel_rfl) (by kernel_rfl) (fun _ _ _ h => h) (Or.inl ⟨by rfl, fun w0 hSw => ?_⟩) hHeld ?_
  rotate_left
  · (try dsimp only at hSw)
    go_simp
    try with_reducible rfl
  simp only [Act.put, List.getElem_toArray, List.getElem_cons_succ, List.getElem_cons_zero, List.setIfInBounds_toArray, List.set_cons_zero, List.set_cons_succ]
  refine wpAnyH_take (i := 14) (v := ?_) rfl (by kernel_rfl) (by kernel_rfl) (by kernel_rfl) (fun _ _ _ h => h) (Or.inl ⟨by rfl, fun w0 hSw => ?_⟩) hHeld ?_
  rotate_left
  · (try dsimp only at hSw)
    go_simp
    try with_reducible rfl
  simp only [Act.put, List.getElem_toArray, List.getElem_cons_succ, List.getElem_cons_zero, List.setIfInBounds_toArray, List.set_cons_zero, List.set_cons_succ]
  refine wpAnyH_take (i := 15) (v := ?_) rfl (by kernel_rfl) (by kernel_rfl) (by kernel_rfl) (fun _ _ _ h => h) (Or.inl ⟨by rfl, fun w0 hSw => ?_⟩) hHeld ?_
  rotate_left
  · (try dsimp only at hSw)
    go_simp
    try with_reducible rfl
  simp only [Act.put, List.getElem_toArray, List.getElem_cons_succ, List.getElem_cons_zero, List.setIfInBounds_toArray, List.set_cons_zero, List.set_cons_succ]
  refine wpAnyH_done (by kernel_rfl) ?_ _
  refine NoPanic.normal ?_
  go_wp2_with fail
  exact hR.out _ _ (Gives.mk (Ext.trans b03 XE) rfl)
theorem own : ownKnob Tryd.prog.godebug = none := by kernel_rfl
theorem laidOut : laidOutB Tryd.prog = true := by kernel_rfl

set_option maxRecDepth 100000 in
theorem contract (H : Type) (enc : TypeId × Value → H) (W : World) (base : Nat) (args : Array Value) (ds gs : List (DataW H)) (before : List MemPlace)
    (hval : ∀ (j : Nat) t v, Tryd.f8.params[j]? = some t → args[j]? = some v → Value.okWide Tryd.prog W .any base t v)
    (hW : DataW.Whole enc Tryd.prog Tryd.f8.params.toList Rows.rtextPrintsSpec.vars false W args.toList ds gs before) (hk : Rows.uptoSmall H (ds ++ gs) = true) (hm : ∃ m, W.cell? ⟨0, 0, none⟩ = some (.int .i64 m)) :
    Calls Tryd.prog 8 args W fun e W' => ∃ v, e = .returned v ∧ Rows.rtextPrintsSpec.post enc Tryd.prog Tryd.f8 false true false false W args v W' := by
  have hW' := hW
  obtain ⟨p, q, hA0, hV, rfl, hfz, hnd⟩ := hW
  have hA : DataW.TrodAll enc Tryd.prog W 0 (fun _ => true) true Tryd.f8.params.toList args.toList ds p := hA0
  rw [Tryd.params8] at hA hval
  obtain ⟨v0, vs0, d0, ds0, p0, q0, hargs, rfl, rfl, h0, r0⟩ := trodAll_cons hA
  obtain ⟨rfl, rfl, rfl⟩ := trodAll_nil r0
  obtain rfl : args = #[v0] := by cases args; simp_all
  obtain ⟨rfl, rfl⟩ := trodVars_none hV
  have hb := bulk_small hk
  simp only [List.append_nil, bulk_cons, bulk_nil] at hb
  have k0 := h0
  have lt0 : ∀ x ∈ p0, x.block < W.heap.size := by obtain ⟨m, hm⟩ := k0; exact DataW.trod_lt m _ _ _ hm
  obtain ⟨s0, x0, y0, rd0, len0⟩ := open_N (hval 0 48 v0 rfl rfl) h0
  clear hA0
  refine (walk rd0 (by omega) (by omega) hm).mono fun e W' ⟨v, he, bel, hv⟩ => ?_
  subst he hv
  exact ⟨_, rfl, _, _, _, [], _, [], hW', trodAll_mk1 (shut_bool Tryd.underlying4 _), (trodAll_cons_mk (Below.trod laidOut (by kernel_rfl) (of_decide_eq_true (by kernel_rfl)) k0 bel lt0) trodAll_mk0), rfl, bel.frame _, fun h => by cases h⟩

theorem laid_met (os : Os) : laidMet Tryd.prog Rows.rtextPrintsUptoRow.laid ((laidWorld os).forCall (fun _ _ => 0) ⟨#[], #[.agg #[.bool false, .slice none 0 0, .slice none 0 0]], []⟩).memory :=
  laidMet_of_run' 8 (by kernel_rfl) (by kernel_rfl)
theorem reads (os : Os) {H : Type} (enc : TypeId × Value → H) : ∃ places, DataW.whole enc Tryd.prog ((laidWorld os).forCall (fun _ _ => 0) ⟨#[], #[.agg #[.bool false, .slice none 0 0, .slice none 0 0]], []⟩).memory Tryd.f8.params.toList Rows.rtextPrintsSpec.vars false (#[.agg #[.bool false, .slice none 0 0, .slice none 0 0]] : Array Value).toList 8 = some ([.agg [.lit (.bool false), .nil, .nil]], [], places) :=
  ⟨[], by kernel_rfl⟩

set_option maxRecDepth 100000 in
theorem lifted (os : Os) (started : os.Started) (H : Type) (enc : TypeId × Value → H) (F : Stop.Interp) :
    ReturnsInHanded {} Tryd.checked os 8 .any ((Rows.OpenSpec.upto Rows.rtextPrintsSpec).preRow enc Tryd.prog Tryd.f8 Rows.rtextPrintsUptoRow.domain false Rows.rtextPrintsUptoRow.laid) (((Rows.OpenSpec.upto Rows.rtextPrintsSpec).at F).post enc Tryd.prog Tryd.f8 false true false false) := by
  obtain ⟨places, hx⟩ := reads os enc
  refine returnsInHanded_of_row (C := Tryd.checked) (s := Rows.OpenSpec.upto Rows.rtextPrintsSpec) own started (by kernel_rfl) Tryd.func8
    (witness_row_at (enc := enc) (C := Tryd.checked) false (laidWorld os) #[.agg #[.bool false, .slice none 0 0, .slice none 0 0]] rfl (by kernel_rfl) (by kernel_rfl) (by kernel_rfl)
      (OpenSpec.preRow_of_cond 8 hx (by kernel_rfl) (fun k hk => by cases hk; kernel_rfl) (by kernel_rfl) (laid_met os))) ?_
  intro W base args ds gs before hval hW _ hcond _ _ hsh _
  exact contract H enc W base args ds gs before hval hW (hcond _ rfl) (Tryd.maxLen_cell hsh)

theorem said : Rows.RtextPrintsUptoSaid :=
  OpenClaim.holds_of_cond 8 Tryd.f8 rfl rfl rfl rfl rfl rfl rfl ⟨rfl, rfl, rfl, rfl, rfl⟩ rfl rfl rfl rfl rfl (by kernel_rfl) Tryd.func8 (by kernel_rfl)
    (of_decide_eq_true (by kernel_rfl)) (by unfold Func.isWrapper; first | (rw [if_pos (by decide +kernel)]; kernel_rfl) | (rw [if_neg (by decide +kernel)]; exact ⟨rfl, rfl⟩))
    (fun os started H enc _ F => by rw [OpenClaim.pre_eq_preRow]; exact lifted os started H enc F)

/-- No parameter wants a stand-in; the program's own looks are off: what the card asks. -/
theorem plain (f : FuncId) (fn : Func) (hf : Tryd.pinned.checked.prog.funcNamed "attest/attestlaw06.RtextPrints" = some f) (hfn : Tryd.pinned.checked.prog.funcs[f]? = some fn) :
    false = Tryd.pinned.checked.prog.looks [] ∧ ∀ (j : Nat) t, fn.params[j]? = some t → Tryd.pinned.checked.prog.wantsStandIn t = false := by
  obtain rfl : f = 8 := Option.some.inj ((show Tryd.prog.funcNamed "attest/attestlaw06.RtextPrints" = some 8 by kernel_rfl).symm.trans hf) |>.symm
  obtain rfl : fn = Tryd.f8 := (Option.some.inj (Tryd.func8.symm.trans hfn)).symm
  refine ⟨by kernel_rfl, fun j t ht => ?_⟩
  rw [Tryd.params8] at ht
  have hm : t ∈ #[48] := Array.mem_of_getElem? ht
  simp only [List.mem_toArray, List.mem_cons, List.not_mem_nil, or_false] at hm
  subst hm
  exact (show Tryd.prog.wantsStandIn 48 = false by kernel_rfl)

/-- The card. -/
theorem proved : Rows.RtextPrintsUptoCardSaid :=
  Claim7.holds_tied_plain_at .later [] _ _ _ _ said (fun _ h => by cases h) (by kernel_rfl) (fun _ h => by cases h) rtextPrintsUpto_row_tie rfl ⟨rfl, rfl⟩ (by kernel_rfl) rfl plain (by kernel_rfl)
#print axioms proved

end Go.Proofs.YtgajpmcjjefghaaDoor.rtextPrints
