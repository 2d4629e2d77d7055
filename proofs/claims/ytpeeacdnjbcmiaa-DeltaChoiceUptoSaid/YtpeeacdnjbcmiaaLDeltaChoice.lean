/- DeltaChoice: the greatest number that the infinitely small one may be, so that given pairs stay in order, is found. Conditions: the arguments hold together at most 1048576 values (the second form, Upto). -/
import Derived.Test.YtpeeacdnjbcmiaaFrameR
import Derived.Test.YtpeeacdnjbcmiaaPAwake07
import Derived.Test.YtpeeacdnjbcmiaaPLists
import Derived.Test.YtpeeacdnjbcmiaaPRef7Choose
import Derived.Test.YtpeeacdnjbcmiaaPIs05
namespace Go.Proofs.Ytpeeacdnjbcmiaa.deltaChoice
open Go.ChangeShapes Go.WideShapes Go.ChangeAt Go.RowKit Go.Att

theorem sz_row {w : World} {v : Value} {l : List (NN × NN)} (hv : RdRow 6 RdNDp w v l) (n : Nat) : ∀ p ∈ (l.take n).map qND2, Sz 8 p.1 ∧ Sz 8 p.2 := by
  intro p hp
  obtain ⟨q, hq, rfl⟩ := List.mem_map.1 hp
  obtain ⟨i, hi, rfl⟩ := List.getElem_of_mem (List.mem_of_mem_take hq)
  obtain ⟨a, c, rfl, -, -⟩ := hv.shape
  obtain ⟨_, _, cs, -, -, hT, -⟩ := hv.at (by decide) i hi
  obtain ⟨_, _, _, _, _, _, -, ⟨_, _, _, h1, h2⟩, ⟨_, _, _, h3, h4⟩⟩ := hT
  exact ⟨qOf_sz h1.2 h2.2, qOf_sz h3.2 h4.2⟩
set_option maxHeartbeats 4000000 in
set_option maxRecDepth 100000 in
set_option linter.unusedSimpArgs false in
theorem walk {w : World} {v0 v1 : Value} {l0 l1 : List (NN × NN)} (hv0 : RdRow 6 RdNDp w v0 l0) (hb0 : ∀ p ∈ l0, bND p ≤ 1048576) (_hn0 : l0.length ≤ 1048576)
    (hv1 : RdRow 6 RdNDp w v1 l1) (hb1 : ∀ p ∈ l1, bND p ≤ 1048576) (_hn1 : l1.length ≤ 1048576) :
    Calls Try.prog 7 #[v0, v1] w (Gives w fun v' _ => v' = .bool true) := by
  refine via fun R hR => ?_
  have SA := Lib.hid (sz_row hv0 12)
  have SB := Lib.hid (sz_row hv1 12)
  have HL := Lib.hid (lists_any hv0 (fun p hp => by
    have := hb0 p hp
    unfold bND bN at this
    exact ⟨⟨by omega, by omega⟩, ⟨by omega, by omega⟩⟩) hv1 (fun p hp => by
    have := hb1 p hp
    unfold bND bN at this
    exact ⟨⟨by omega, by omega⟩, ⟨by omega, by omega⟩⟩))
  obtain ⟨a0, c0, rfl, -, -⟩ := hv0.shape
  obtain ⟨a1, c1, rfl, -, -⟩ := hv1.shape
  clear hv0 hv1 hb0 hb1
  generalize (l0.take 12).map qND2 = A at *
  generalize (l1.take 12).map qND2 = B at *
  go_enter Try.func7, Try.ntmps7
  go_wp2_with fail
  refine HL.out.mono ?_
  rintro e w1 ⟨_, rfl, b1, va, vb, vc, vd, rfl, h4⟩
  have RA := Lib.hid h4.ha.rd
  have RB := Lib.hid h4.hb.rd
  have RC := Lib.hid h4.hc.rd
  have RD := Lib.hid h4.hd.rd
  clear h4
  go_wp2_with fail
  refine (choose_any RA.out RB.out SA.out SB.out).mono ?_
  rintro e w2 ⟨v2, rfl, b2, h2⟩
  have HE : Hid (∀ w, Ext w1 w → Calls Try.prog 59 #[vc, vd] w (Gives w fun v' w' => ChP w' v' (cho A B))) := fun w x => r7choose_any (RC.out.ext OwnE.ext x) (RD.out.ext OwnE.ext x) SA.out SB.out
  clear RA RB RC RD
  cases hch : cho A B with
  | none =>
    rw [hch] at h2 HE
    clear hch
    unfold ChR at h2
    unfold ChP at HE
    subst h2
    obtain ⟨w3, hw3, b3, c3, -, -⟩ := bx1 w2 [.bool false, .slice none 0 0, .slice none 0 0] 28
    have HW := Lib.hid hw3
    have C3 := Lib.hid c3
    clear hw3 c3
    go_upto_region 3 with (fail)
    rw [← HW.out]
    clear HW
    go_wp2_with fail
    refine (HE.out _ (Ext.trans b2 b3)).mono ?_
    rintro e w4 ⟨_, rfl, b4, s, a, l, c, a', l', c', rfl⟩
    obtain ⟨w5, hw5, b5, -, -, -⟩ := bx1 w4 [.bool s, .slice a l c, .slice a' l' c'] 33
    have HW := Lib.hid hw5
    clear hw5
    go_upto_region 4 with (fail)
    rw [← HW.out]
    clear HW
    go_wp2_with fail
    refine awake07.mono ?_
    rintro e w6 ⟨_, rfl, b6, rfl⟩
    obtain ⟨k0, k1, k2⟩ := (C3.out.ext (Ext.trans b4 (Ext.trans b5 b6))).c3
    go_wp2_with fail
    clear k0 k1 k2
    refine (rsign_any (RdQ.zero w6)).mono ?_
    rintro e w7 ⟨_, rfl, b7, rfl⟩
    rw [show (0 : Rat).num.sign = 0 by rw [Rat.zero_num]; rfl]
    go_wp2_with fail
    exact hR.out _ _ (Gives.mk (Ext.trans b1 (Ext.trans b2 (Ext.trans b3 (Ext.trans b4 (Ext.trans b5 (Ext.trans b6 b7)))))) rfl)
  | some m =>
    rw [hch] at h2 HE
    clear hch
    unfold ChR at h2
    unfold ChP at HE
    obtain ⟨o, rfl, hO, hS⟩ := h2
    obtain ⟨s, a, l, c, a', l', c', rfl, O2⟩ := hO.op
    clear hO
    have RQ := Lib.hid O2.out.rd
    have SM := Lib.hid hS
    clear hS O2
    obtain ⟨w3, hw3, b3, c3, -, -⟩ := bx1 w2 [.bool s, .slice a l c, .slice a' l' c'] 28
    have HW := Lib.hid hw3
    have C3 := Lib.hid c3
    clear hw3 c3
    go_upto_region 3 with (fail)
    rw [← HW.out]
    clear HW
    go_wp2_with fail
    refine (HE.out _ (Ext.trans b2 b3)).mono ?_
    rintro e w4 ⟨_, rfl, b4, o, rfl, hO⟩
    obtain ⟨s9, a9, l9, c9, a8, l8, c8, rfl, O4⟩ := hO.op
    have RP := Lib.hid O4.out.rd
    clear hO O4
    obtain ⟨w5, hw5, b5, c5, -, -⟩ := bx1 w4 [.bool s9, .slice a9 l9 c9, .slice a8 l8 c8] 33
    have HW := Lib.hid hw5
    have C5 := Lib.hid c5
    clear hw5 c5
    go_upto_region 4 with (fail)
    rw [← HW.out]
    clear HW
    go_wp2_with fail
    refine awake07.mono ?_
    rintro e w6 ⟨_, rfl, b6, rfl⟩
    obtain ⟨k0, k1, k2⟩ := (C3.out.ext (Ext.trans b4 (Ext.trans b5 b6))).c3
    obtain ⟨j0, j1, j2⟩ := (C5.out.ext b6).c3
    go_wp2_with fail
    clear k0 k1 k2 j0 j1 j2
    refine (is_yes (RQ.out.ext (Ext.trans b3 (Ext.trans b4 (Ext.trans b5 b6)))) (RP.out.ext (Ext.trans b5 b6)) (SM.out.le (by decide))).mono ?_
    rintro e w7 ⟨_, rfl, b7, rfl⟩
    go_wp2_with fail
    exact hR.out _ _ (Gives.mk (Ext.trans b1 (Ext.trans b2 (Ext.trans b3 (Ext.trans b4 (Ext.trans b5 (Ext.trans b6 b7)))))) rfl)
theorem own : ownKnob Try.prog.godebug = none := by kernel_rfl
theorem laidOut : laidOutB Try.prog = true := by kernel_rfl

set_option maxRecDepth 100000 in
theorem contract (H : Type) (enc : TypeId × Value → H) (W : World) (base : Nat) (args : Array Value) (ds gs : List (DataW H)) (before : List MemPlace)
    (hval : ∀ (j : Nat) t v, Try.f7.params[j]? = some t → args[j]? = some v → Value.okWide Try.prog W .any base t v)
    (hW : DataW.Whole enc Try.prog Try.f7.params.toList Rows.deltaChoiceSpec.vars false W args.toList ds gs before) (hk : Rows.uptoSmall H (ds ++ gs) = true) :
    Calls Try.prog 7 args W fun e W' => ∃ v, e = .returned v ∧ Rows.deltaChoiceSpec.post enc Try.prog Try.f7 false true false false W args v W' := by
  have hW' := hW
  obtain ⟨p, q, hA0, hV, rfl, hfz, hnd⟩ := hW
  have hA : DataW.TrodAll enc Try.prog W 0 (fun _ => true) true Try.f7.params.toList args.toList ds p := hA0
  rw [Try.params7] at hA hval
  obtain ⟨v0, vs0, d0, ds0, p0, q0, hargs, rfl, rfl, h0, r0⟩ := trodAll_cons hA
  obtain ⟨v1, vs1, d1, ds1, p1, q1, rfl, rfl, rfl, h1, r1⟩ := trodAll_cons r0
  obtain ⟨rfl, rfl, rfl⟩ := trodAll_nil r1
  obtain rfl : args = #[v0, v1] := by cases args; simp_all
  obtain ⟨rfl, rfl⟩ := trodVars_none hV
  have hb := bulk_small hk
  simp only [List.append_nil, bulk_cons, bulk_nil] at hb
  have k0 := h0
  have lt0 : ∀ x ∈ p0, x.block < W.heap.size := by obtain ⟨m, hm⟩ := k0; exact DataW.trod_lt m _ _ _ hm
  obtain ⟨l0, rd0, bd0, len0⟩ := open_rowND Try.underlying95 Try.underlying26 rfl rfl rfl rfl (by kernel_rfl) (hval 0 95 v0 rfl rfl) h0
  have k1 := h1
  have lt1 : ∀ x ∈ p1, x.block < W.heap.size := by obtain ⟨m, hm⟩ := k1; exact DataW.trod_lt m _ _ _ hm
  obtain ⟨l1, rd1, bd1, len1⟩ := open_rowND Try.underlying95 Try.underlying26 rfl rfl rfl rfl (by kernel_rfl) (hval 1 95 v1 rfl rfl) h1
  clear hA0
  refine (walk rd0 (fun p hp => by have := bd0 p hp; omega) (by omega) rd1 (fun p hp => by have := bd1 p hp; omega) (by omega)).mono fun e W' ⟨v, he, bel, hv⟩ => ?_
  subst he hv
  exact ⟨_, rfl, _, _, _, [], _, [], hW', trodAll_mk1 (shut_bool Try.underlying4 _), (trodAll_cons_mk (Below.trod laidOut (by kernel_rfl) (of_decide_eq_true (by kernel_rfl)) k0 bel lt0) (trodAll_cons_mk (Below.trod laidOut (by kernel_rfl) (of_decide_eq_true (by kernel_rfl)) k1 bel lt1) trodAll_mk0)), rfl, bel.frame _, fun h => by cases h⟩

set_option maxRecDepth 100000 in
theorem lifted (os : Os) (started : os.Started) (H : Type) (enc : TypeId × Value → H) (F : Stop.Interp) :
    ReturnsInHanded {} Try.checked os 7 .any ((Rows.OpenSpec.upto Rows.deltaChoiceSpec).pre6 enc Try.prog Try.f7 Rows.deltaChoiceUptoRow.domain false) (((Rows.OpenSpec.upto Rows.deltaChoiceSpec).at F).post enc Try.prog Try.f7 false true false false) := by
  refine returnsInHanded_of_cond (C := Try.checked) (s := Rows.OpenSpec.upto Rows.deltaChoiceSpec) (k := Rows.uptoSmall) rfl own started (by kernel_rfl) Try.func7
    (OpenSpec.witness (enc := enc) (C := Try.checked) (s := Rows.OpenSpec.upto Rows.deltaChoiceSpec) (k := Rows.uptoSmall) rfl false ⟨#[], #[.slice none 0 0, .slice none 0 0], []⟩ 8 (by kernel_rfl) (by kernel_rfl) (by kernel_rfl)
      (x := ([.nil, .nil], [], [])) (by kernel_rfl) rfl (by kernel_rfl)) ?_
  intro W base args ds gs before hval hW _ hk _
  exact contract H enc W base args ds gs before hval hW hk

theorem proved : Rows.DeltaChoiceUptoSaid :=
  OpenClaim.holds_of_cond 7 Try.f7 rfl rfl rfl rfl rfl rfl rfl ⟨rfl, rfl, rfl, rfl, rfl⟩ rfl rfl rfl rfl rfl (by kernel_rfl) Try.func7 (by kernel_rfl)
    (of_decide_eq_true (by kernel_rfl)) (by unfold Func.isWrapper; first | (rw [if_pos (by decide +kernel)]; kernel_rfl) | (rw [if_neg (by decide +kernel)]; exact ⟨rfl, rfl⟩))
    (fun os started H enc _ F => lifted os started H enc F)
#print axioms proved

end Go.Proofs.Ytpeeacdnjbcmiaa.deltaChoice
