/- SpanMaxes: the range of the greatest of several numbers is right. Conditions: the arguments hold together at most 1048576 values (the second form, Upto). -/
import Derived.Test.YtpeeacdnjbcmiaaFrameR
import Derived.Test.YtpeeacdnjbcmiaaPAwake17
import Derived.Test.YtpeeacdnjbcmiaaPOne17
import Derived.Test.YtpeeacdnjbcmiaaPList17
import Derived.Test.YtpeeacdnjbcmiaaPRef17Max
namespace Go.Proofs.Ytpeeacdnjbcmiaa.spanMaxes
open Go.ChangeShapes Go.WideShapes Go.ChangeAt Go.RowKit Go.Att

theorem sz_row {w : World} {v : Value} {l : List (NN × NN)} (hv : RdRow 6 RdNDp w v l) (n : Nat) : ∀ p ∈ (l.take n).map qND, Sz 8 p.1 ∧ Sz 8 p.2 := by
  intro p hp
  obtain ⟨q, hq, rfl⟩ := List.mem_map.1 hp
  obtain ⟨i, hi, rfl⟩ := List.getElem_of_mem (List.mem_of_mem_take hq)
  obtain ⟨a, c, rfl, -, -⟩ := hv.shape
  obtain ⟨_, _, cs, -, -, hT, -⟩ := hv.at (by decide) i hi
  obtain ⟨_, _, _, _, _, _, -, ⟨_, _, _, h1, h2⟩, ⟨_, _, _, h3, h4⟩⟩ := hT
  exact ⟨qOf_sz h1.2 h2.2, qOf_sz h3.2 h4.2⟩
set_option maxHeartbeats 4000000 in
set_option maxRecDepth 100000 in
set_option linter.unusedSimpArgs false in
theorem walk {w : World} {v : Value} {l : List (NN × NN)} (hv : RdRow 6 RdNDp w v l) (hb : ∀ p ∈ l, bND p ≤ 1048576) (hn : l.length ≤ 1048576) :
    Calls Try.prog 5 #[v] w (Gives w fun v' _ => v' = .bool true) := by
  refine via fun R hR => ?_
  have SZ := Lib.hid (sz_row hv 34)
  have HL : Hid (∀ (w : World) (v : Value), RdRow 6 RdNDp w v l → Calls Try.prog 50 #[v] w (Gives w fun v' w' => OwnRow 6 (OwnDp 148) 56 w.heap.size w' v' ((l.take 34).map qND))) := fun w v h => list17_any h (fun p hp => by
    have := hb p hp
    unfold bND bN at this
    exact ⟨⟨by omega, by omega⟩, ⟨by omega, by omega⟩⟩)
  have HLN : Hid (((l.take 34).map qND).length ≤ 34) := by show _ ≤ _; rw [List.length_map, List.length_take]; omega
  have HLZ : Hid (((l.take 34).map qND).length = min 34 l.length) := by show _ = _; rw [List.length_map, List.length_take]
  obtain ⟨a, c, rfl, -, -⟩ := hv.shape
  have HV := Lib.hid hv
  clear hv hb
  generalize (l.take 34).map qND = L at *
  go_enter Try.func5, Try.ntmps5
  go_wp2_with fail
  refine (HL.out _ _ HV.out).mono ?_
  rintro e w1 ⟨v1, rfl, b1, o1⟩
  have OL : Hid (RdRow 6 RdDp w1 v1 L) := RdRow.mono o1.rd fun _ _ h => OwnD.rd h
  clear o1
  go_wp2_with fail
  by_cases h0 : l.length = 0
  · have hL : L = [] := List.eq_nil_of_length_eq_zero (by rw [HLZ.out, h0]; rfl)
    subst hL
    refine (smax_no OL.out).mono ?_
    rintro e w2 ⟨_, rfl, b2, rfl⟩
    obtain ⟨w3, hw3, b3, c3, -, -⟩ := bx1 w2 [.bool false, .slice none 0 0, .slice none 0 0, .bool false, .slice none 0 0, .slice none 0 0] 56
    have HW := Lib.hid hw3
    have C3 := Lib.hid c3
    clear c3 hw3
    have h1 : ((l.length : Int) == 0) = true := by rw [h0]; rfl
    go_upto_region 2 with (fail)
    rw [← HW.out]
    clear HW
    go_wp2_with fail
    refine awake17.mono ?_
    rintro e w4 ⟨_, rfl, b4, rfl⟩
    obtain ⟨k0, k1, k2, k3, k4, k5⟩ := (C3.out.ext b4).c6
    go_wp2_with fail
    refine (rsign_any (rdq_zero _)).mono ?_
    rintro e w5 ⟨_, rfl, b5, rfl⟩
    clear k0 k1 k2 k3 k4 k5
    obtain ⟨k0, k1, k2, k3, k4, k5⟩ := (C3.out.ext (Ext.trans b4 b5)).c6
    go_wp2_with fail
    refine (rsign_any (rdq_zero _)).mono ?_
    rintro e w6 ⟨_, rfl, b6, rfl⟩
    go_wp2_with fail
    exact hR.out _ _ (Gives.mk (Ext.trans b1 (Ext.trans b2 (Ext.trans b3 (Ext.trans b4 (Ext.trans b5 b6))))) rfl)
  · have hL : 0 < L.length := by rw [HLZ.out]; omega
    have S0 : Hid (∀ p ∈ L, Sz 1000000 p.1 ∧ Sz 1000000 p.2) := fun p hp => ⟨(SZ.out p hp).1.le (by decide), (SZ.out p hp).2.le (by decide)⟩
    have SM := Lib.hid (mxs_all (Sz 8) L L[0] (SZ.out _ (List.getElem_mem hL)) SZ.out)
    have SB : Hid (∀ p ∈ L, Sb 50000 p.1 ∧ Sb 50000 p.2) := fun p hp => ⟨(SZ.out p hp).1.bits.le (by decide), (SZ.out p hp).2.bits.le (by decide)⟩
    have HM : Hid (∀ (w : World) (v : Value), RdRow 6 RdEp w v L → Calls Try.prog 51 #[v] w (Gives w fun v' w' => RdE w' v' (mxs L L[0]).1 (mxs L L[0]).2)) := fun w v h => r17max_any h hL SB.out
    refine (smax_any OL.out hL S0.out).mono ?_
    generalize mxs L L[0] = m at *
    rintro e w2 ⟨_, rfl, b2, _, rfl, o2⟩
    obtain ⟨s0, a1, n1, c1, a2, n2, c2, s3, a4, n4, c4, a5, n5, c5, rfl, O2⟩ := o2.op
    clear o2
    obtain ⟨w3, hw3, b3, c3, -, -⟩ := bx1 w2 [.bool s0, .slice a1 n1 c1, .slice a2 n2 c2, .bool s3, .slice a4 n4 c4, .slice a5 n5 c5] 56
    have HW := Lib.hid hw3
    have C3 := Lib.hid c3
    clear c3 hw3
    have h1 : ((l.length : Int) == 0) = false := beq_false_of_ne (by omega)
    go_upto_region 2 with (fail)
    rw [← HW.out]
    clear HW
    go_wp2_with fail
    refine awake17.mono ?_
    rintro e w4 ⟨_, rfl, b4, rfl⟩
    obtain ⟨k0, k1, k2, k3, k4, k5⟩ := (C3.out.ext b4).c6
    go_wp2_with fail
    have X4 : Hid (Ext w4 (w4.alloc (.cells #[.bool s0, .slice a1 n1 c1, .slice a2 n2 c2, .bool s3, .slice a4 n4 c4, .slice a5 n5 c5] 56))) := Ext.alloc _ _
    have HT : RdRow 6 RdDp (w4.alloc (.cells #[.bool s0, .slice a1 n1 c1, .slice a2 n2 c2, .bool s3, .slice a4 n4 c4, .slice a5 n5 c5] 56)) (.slice (some ⟨w4.heap.size, 0, none⟩) 1 1) [m] :=
      RdRow.lit w4 [[.bool s0, .slice a1 n1 c1, .slice a2 n2 c2, .bool s3, .slice a4 n4 c4, .slice a5 n5 c5]] 56 (Pw.one rfl (RdDp.ext (p := m) O2.out (Ext.trans b3 b4))) RdDp.ext (by unfold maxLen; simp)
    clear k0 k1 k2 k3 k4 k5
    refine (told17_any HT (by intro p hp; simp at hp; subst hp; exact ⟨SM.out.1.le (by decide), SM.out.2.le (by decide)⟩) (by simp)).mono ?_
    rintro e w5 ⟨v5, rfl, b5', o5⟩
    have O5 : Hid (RdRow 6 RdEp w5 v5 [m]) := RdRow.mono o5.rd fun _ _ h => OwnE.rd h
    have b5 := Ext.trans X4.out b5'
    clear HT o5 b5' X4
    go_wp2_with fail
    refine (HL.out _ _ (HV.out.ext RdNDp.ext (Ext.trans b1 (Ext.trans b2 (Ext.trans b3 (Ext.trans b4 b5)))))).mono ?_
    rintro e w6 ⟨v6, rfl, b6, o6⟩
    have O6 : Hid (RdRow 6 RdDp w6 v6 L) := RdRow.mono o6.rd fun _ _ h => OwnD.rd h
    clear o6
    go_wp2_with fail
    refine (told17_any O6.out S0.out (by have := HLN.out; omega)).mono ?_
    rintro e w7 ⟨v7, rfl, b7, o7⟩
    have O7 : Hid (RdRow 6 RdEp w7 v7 L) := RdRow.mono o7.rd fun _ _ h => OwnE.rd h
    clear o7
    go_wp2_with fail
    refine (HM.out _ _ O7.out).mono ?_
    rintro e w8 ⟨_, rfl, b8, o8⟩
    obtain ⟨t0, d1, m1, e1, d2, m2, e2, t3, d4, m4, e4, d5, m5, e5, rfl, O8⟩ := RdE.op o8
    clear o8
    go_wp2_with fail
    have HT : RdRow 6 RdEp (w8.alloc (.cells #[.bool t0, .slice d1 m1 e1, .slice d2 m2 e2, .bool t3, .slice d4 m4 e4, .slice d5 m5 e5] 69)) (.slice (some ⟨w8.heap.size, 0, none⟩) 1 1) [m] :=
      RdRow.lit w8 [[.bool t0, .slice d1 m1 e1, .slice d2 m2 e2, .bool t3, .slice d4 m4 e4, .slice d5 m5 e5]] 69 (Pw.one rfl O8.out) RdEp.ext (by unfold maxLen; simp)
    have X8 : Hid (Ext w8 (w8.alloc (.cells #[.bool t0, .slice d1 m1 e1, .slice d2 m2 e2, .bool t3, .slice d4 m4 e4, .slice d5 m5 e5] 69))) := Ext.alloc _ _
    refine (same17_yes (O5.out.ext RdEp.ext (Ext.trans (Ext.trans b6 (Ext.trans b7 b8)) X8.out)) HT (by intro p hp; simp at hp; subst hp; exact ⟨SM.out.1.bits.le (by decide), SM.out.2.bits.le (by decide)⟩)).mono ?_
    rintro e w9 ⟨_, rfl, b9', rfl⟩
    have b9 := Ext.trans X8.out b9'
    clear HT b9' X8
    go_wp2_with fail
    exact hR.out _ _ (Gives.mk (Ext.trans b1 (Ext.trans b2 (Ext.trans b3 (Ext.trans b4 (Ext.trans b5 (Ext.trans b6 (Ext.trans b7 (Ext.trans b8 b9)))))))) rfl)
theorem own : ownKnob Try.prog.godebug = none := by kernel_rfl
theorem laidOut : laidOutB Try.prog = true := by kernel_rfl

set_option maxRecDepth 100000 in
theorem contract (H : Type) (enc : TypeId × Value → H) (W : World) (base : Nat) (args : Array Value) (ds gs : List (DataW H)) (before : List MemPlace)
    (hval : ∀ (j : Nat) t v, Try.f5.params[j]? = some t → args[j]? = some v → Value.okWide Try.prog W .any base t v)
    (hW : DataW.Whole enc Try.prog Try.f5.params.toList Rows.spanMaxesSpec.vars false W args.toList ds gs before) (hk : Rows.uptoSmall H (ds ++ gs) = true) :
    Calls Try.prog 5 args W fun e W' => ∃ v, e = .returned v ∧ Rows.spanMaxesSpec.post enc Try.prog Try.f5 false true false false W args v W' := by
  have hW' := hW
  obtain ⟨p, q, hA0, hV, rfl, hfz, hnd⟩ := hW
  have hA : DataW.TrodAll enc Try.prog W 0 (fun _ => true) true Try.f5.params.toList args.toList ds p := hA0
  rw [Try.params5] at hA hval
  obtain ⟨v0, vs0, d0, ds0, p0, q0, hargs, rfl, rfl, h0, r0⟩ := trodAll_cons hA
  obtain ⟨rfl, rfl, rfl⟩ := trodAll_nil r0
  obtain rfl : args = #[v0] := by cases args; simp_all
  obtain ⟨rfl, rfl⟩ := trodVars_none hV
  have hb := bulk_small hk
  simp only [List.append_nil, bulk_cons, bulk_nil] at hb
  have k0 := h0
  have lt0 : ∀ x ∈ p0, x.block < W.heap.size := by obtain ⟨m, hm⟩ := k0; exact DataW.trod_lt m _ _ _ hm
  obtain ⟨l0, rd0, bd0, len0⟩ := open_rowND Try.underlying79 Try.underlying54 rfl rfl rfl rfl (by kernel_rfl) (hval 0 79 v0 rfl rfl) h0
  clear hA0
  refine (walk rd0 (fun p hp => by have := bd0 p hp; omega) (by omega)).mono fun e W' ⟨v, he, bel, hv⟩ => ?_
  subst he hv
  exact ⟨_, rfl, _, _, _, [], _, [], hW', trodAll_mk1 (shut_bool Try.underlying4 _), (trodAll_cons_mk (Below.trod laidOut (by kernel_rfl) (of_decide_eq_true (by kernel_rfl)) k0 bel lt0) trodAll_mk0), rfl, bel.frame _, fun h => by cases h⟩

set_option maxRecDepth 100000 in
theorem lifted (os : Os) (started : os.Started) (H : Type) (enc : TypeId × Value → H) (F : Stop.Interp) :
    ReturnsInHanded {} Try.checked os 5 .any ((Rows.OpenSpec.upto Rows.spanMaxesSpec).pre6 enc Try.prog Try.f5 Rows.spanMaxesUptoRow.domain false) (((Rows.OpenSpec.upto Rows.spanMaxesSpec).at F).post enc Try.prog Try.f5 false true false false) := by
  refine returnsInHanded_of_cond (C := Try.checked) (s := Rows.OpenSpec.upto Rows.spanMaxesSpec) (k := Rows.uptoSmall) rfl own started (by kernel_rfl) Try.func5
    (OpenSpec.witness (enc := enc) (C := Try.checked) (s := Rows.OpenSpec.upto Rows.spanMaxesSpec) (k := Rows.uptoSmall) rfl false ⟨#[], #[.slice none 0 0], []⟩ 8 (by kernel_rfl) (by kernel_rfl) (by kernel_rfl)
      (x := ([.nil], [], [])) (by kernel_rfl) rfl (by kernel_rfl)) ?_
  intro W base args ds gs before hval hW _ hk _
  exact contract H enc W base args ds gs before hval hW hk

theorem proved : Rows.SpanMaxesUptoSaid :=
  OpenClaim.holds_of_cond 5 Try.f5 rfl rfl rfl rfl rfl rfl rfl ⟨rfl, rfl, rfl, rfl, rfl⟩ rfl rfl rfl rfl rfl (by kernel_rfl) Try.func5 (by kernel_rfl)
    (of_decide_eq_true (by kernel_rfl)) (by unfold Func.isWrapper; first | (rw [if_pos (by decide +kernel)]; kernel_rfl) | (rw [if_neg (by decide +kernel)]; exact ⟨rfl, rfl⟩))
    (fun os started H enc _ F => lifted os started H enc F)
#print axioms proved

end Go.Proofs.Ytpeeacdnjbcmiaa.spanMaxes
