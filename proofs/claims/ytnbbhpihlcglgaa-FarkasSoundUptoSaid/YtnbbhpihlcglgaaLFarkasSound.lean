/- FarkasSound: constraints that Farkas's numbers refute never all hold at a point. Conditions: the arguments hold together at most 1048576 values (the second form, Upto). -/
import Derived.Test.YtnbbhpihlcglgaaFrameA
import Derived.Test.YtnbbhpihlcglgaaFarkLaw
import Derived.Test.YtnbbhpihlcglgaaPAwake20
namespace Go.Proofs.Ytnbbhpihlcglgaa.farkasSound
open Go.ChangeShapes Go.WideShapes Go.ChangeAt Go.RowKit Go.Att

theorem sz_rowN {w : World} {v : Value} {l : List NN} (hv : RdRow 3 RdNp w v l) (n : Nat) : ∀ p ∈ (l.take n).map qN, Sz 20 p := by
  intro p hp
  obtain ⟨q, hq, rfl⟩ := List.mem_map.1 hp
  obtain ⟨i, hi, rfl⟩ := List.getElem_of_mem (List.mem_of_mem_take hq)
  obtain ⟨a, c, rfl, -, -⟩ := hv.shape
  obtain ⟨_, _, cs, -, -, hT, -⟩ := hv.at (by decide) i hi
  obtain ⟨_, _, _, h1, h2⟩ := hT
  exact (qOf_sz h1.2 h2.2).le (by decide)
theorem sm_rowA {w : World} {v : Value} {l : List NAT} (hv : RdRow 5 RdNA w v l) (n : Nat) : ∀ a ∈ (l.take n).map atA, Smx a.1.1 a.1.2 := by
  intro p hp
  obtain ⟨q, hq, rfl⟩ := List.mem_map.1 hp
  obtain ⟨i, hi, rfl⟩ := List.getElem_of_mem (List.mem_of_mem_take hq)
  obtain ⟨a, c, rfl, -, -⟩ := hv.shape
  obtain ⟨_, _, cs, -, -, ⟨_, _, _, _, _, hT⟩, -⟩ := hv.at (by decide) i hi
  exact tL_sm hT
set_option maxHeartbeats 20000000 in
set_option maxRecDepth 100000 in
set_option linter.unusedSimpArgs false in
theorem walk {w : World} {v0 v1 v2 : Value} {l0 : List NAT} {l1 l2 : List NN} (hv0 : RdRow 5 RdNA w v0 l0) (hb0 : ∀ p ∈ l0, bA p ≤ 1048576) (_hn0 : l0.length ≤ 1048576)
    (hv1 : RdRow 3 RdNp w v1 l1) (hb1 : ∀ p ∈ l1, bN p ≤ 1048576) (_hn1 : l1.length ≤ 1048576)
    (hv2 : RdRow 3 RdNp w v2 l2) (hb2 : ∀ p ∈ l2, bN p ≤ 1048576) (_hn2 : l2.length ≤ 1048576) :
    Calls Try.prog 11 #[v0, v1, v2] w (Gives w fun v' _ => v' = .bool true) := by
  refine via fun R hR => ?_
  have ZL := Lib.hid (sm_rowA hv0 10)
  have ZT := Lib.hid (sz_rowN hv1 10)
  have ZP := Lib.hid (sz_rowN hv2 10)
  have NL : Hid (((l0.take 10).map atA).length ≤ 10) := by show _ ≤ _; rw [List.length_map, List.length_take]; omega
  have HAT : Hid (∀ w' v, RdRow 5 RdNA w' v l0 → Calls Try.prog 54 #[v] w' (Gives w' fun v' w' => RdRow 5 OwnA w' v' ((l0.take 10).map atA))) := fun w' v h => (atoms_any h fun p hp => by
    have := hb0 p hp
    unfold bA at this
    exact ⟨fun t ht => by
      have h2 := mxl_in ht
      unfold bN at h2
      exact ⟨by omega, by omega⟩, by
      unfold bN at this
      exact ⟨by omega, by omega⟩⟩).mono fun _ _ ⟨v, e, b, o⟩ => ⟨v, e, b, OwnRow.rd o⟩
  have HRT : Hid (∀ w' v, RdRow 3 RdNp w' v l1 → Calls Try.prog 55 #[v] w' (Gives w' fun v' w' => RdRow 3 (OwnQp 163) w' v' ((l1.take 10).map qN))) := fun w' v h => (rats20_any h fun p hp => by
    have := hb1 p hp
    unfold bN at this
    exact ⟨by omega, by omega⟩).mono fun _ _ ⟨v, e, b, o⟩ => ⟨v, e, b, OwnRow.rd o⟩
  have HRP : Hid (∀ w' v, RdRow 3 RdNp w' v l2 → Calls Try.prog 55 #[v] w' (Gives w' fun v' w' => RdRow 3 (OwnQp 163) w' v' ((l2.take 10).map qN))) := fun w' v h => (rats20_any h fun p hp => by
    have := hb2 p hp
    unfold bN at this
    exact ⟨by omega, by omega⟩).mono fun _ _ ⟨v, e, b, o⟩ => ⟨v, e, b, OwnRow.rd o⟩
  obtain ⟨a0, k0, rfl, -, -⟩ := hv0.shape
  obtain ⟨a1, k1, rfl, -, -⟩ := hv1.shape
  obtain ⟨a2, k2, rfl, -, -⟩ := hv2.shape
  have HV0 := Lib.hid hv0
  have HV1 := Lib.hid hv1
  have HV2 := Lib.hid hv2
  clear hv0 hv1 hv2 hb0 hb1 hb2
  generalize (l0.take 10).map atA = L at *
  generalize (l1.take 10).map qN = T at *
  generalize (l2.take 10).map qN = P at *
  go_enter Try.func11, Try.ntmps11
  go_wp2_with fail
  refine (HAT.out _ _ HV0.out).mono ?_
  rintro e w1 ⟨v3, rfl, b1, o1⟩
  have O1 := Lib.hid o1
  clear o1
  go_wp2_with fail
  refine (HRT.out _ _ (HV1.out.ext RdNp.ext b1)).mono ?_
  rintro e w2 ⟨v4, rfl, b2, o2⟩
  have O2 := Lib.hid o2
  clear o2
  go_wp2_with fail
  refine (frefutes_any (O1.out.ext OwnAt.ext b2) O2.out ZL.out ZT.out NL.out).mono ?_
  rintro e w3 ⟨_, rfl, b3, t, er, rfl, hv⟩
  have HV := Lib.hid hv
  have b03 := Ext.trans b1 (Ext.trans b2 b3)
  clear hv O1 O2
  by_cases he : er = 0
  · have d0 : (er != 0) = false := bneF he
    subst he
    cases t with
    | false =>
      go_wp2_with fail
      refine awake20.mono ?_
      rintro e w4 ⟨_, rfl, b4, rfl⟩
      go_wp2_with fail
      exact hR.out _ _ (Gives.mk (Ext.trans b03 b4) rfl)
    | true =>
      go_wp2_with fail
      refine (HRP.out _ _ (HV2.out.ext RdNp.ext b03)).mono ?_
      rintro e w4 ⟨_, rfl, b4, o4⟩
      have O4 := Lib.hid o4
      obtain ⟨a4, k4, rfl, -, -⟩ := o4.shape
      clear o4
      go_wp2_with fail
      refine (HAT.out _ _ (HV0.out.ext RdNA.ext (Ext.trans b03 b4))).mono ?_
      rintro e w5 ⟨_, rfl, b5, o5⟩
      have O5 := Lib.hid o5
      obtain ⟨a5, k5, rfl, -, -⟩ := o5.shape
      clear o5
      have b05 := Ext.trans b03 (Ext.trans b4 b5)
      go_wp2_with fail
      go_loopw [34] (fun t wr => ∃ j : Nat, t = .int .i64 j ∧ j ≤ L.length ∧ Ext w5 wr ∧ Hid (∀ a ∈ L.take j, holdA a P = true ∧ 1 ≤ a.2 ∧ a.2 ≤ 3)) (fun t _ => L.length - (intOf t).toNat)
      case atStart => exact ⟨0, rfl, Nat.zero_le _, Ext.refl _, fun a ha => by rw [List.take_zero] at ha; cases ha⟩
      case round =>
        obtain ⟨j, rfl, hj, hx, hH⟩ := hrel
        have hnl := NL.out
        by_cases hjl : j < L.length
        · have hd : decide ((j : Int) < (L.length : Int)) = true := decide_eq_true (by omega)
          obtain ⟨bA', oA, xa, xk, xs, xb, xm, xd, xb', xm', xd', hae, hbo, hax⟩ := O5.out.atm j hjl
          subst hae
          obtain ⟨u0, u1, u2, u3, u4⟩ := (hbo.ext hx).c5
          have hJ1 : IntKind.i64.wrap (j : Int) = (j : Int) := by rw [IntKind.wrap_i64]; omega
          have hJ2 : (0 : Int) ≤ (j : Int) ∧ (j : Int) < (L.length : Int) := ⟨by omega, by omega⟩
          have HZ := Lib.hid (ZL.out _ (List.getElem_mem hjl))
          have HTK : Hid (L.take (j + 1) = L.take j ++ [L[j]]) := (List.take_append_getElem hjl).symm
          obtain ⟨p, hp⟩ : ∃ p, L[j] = p := ⟨_, rfl⟩
          rw [hp] at u0 u4 HZ HTK hax
          have HOA : Hid (OwnA wr (.agg #[.slice xa p.1.1.length xk, .bool xs, .slice xb xm xd, .slice xb' xm' xd', .int .i64 p.2]) p) := ⟨_, _, _, _, rfl, hax.ext hx⟩
          clear hp hbo hax
          have HHO : Hid (∀ w', Ext wr w' → Calls Try.prog 64 #[.agg #[.slice xa p.1.1.length xk, .bool xs, .slice xb xm xd, .slice xb' xm' xd', .int .i64 p.2], .slice a4 P.length k4] w' (Gives w' fun v' _ => v' = .tuple #[.bool (if 1 ≤ p.2 ∧ p.2 ≤ 3 then holdA p P else false), .int .i64 (chk p.2)])) := fun w' x => holds9_any (HOA.out.ext x) (O4.out.ext OwnQ.ext (Ext.trans b5 (Ext.trans hx x))) HZ.out ZP.out
          have HP2 : Hid (p ∈ L) := by show _ ∈ _; exact List.mem_of_mem_take (i := j + 1) (by rw [HTK.out]; exact List.mem_append_right _ List.mem_cons_self)
          obtain ⟨n, hn⟩ : ∃ n, p.1.1.length = n := ⟨_, rfl⟩
          obtain ⟨op, hop⟩ : ∃ op, p.2 = op := ⟨_, rfl⟩
          rw [hn, hop] at HHO
          rw [hn] at u0
          rw [hop] at u4
          have HOP := Lib.hid hop
          clear hn hop HOA
          obtain ⟨w6, hw6, b6, c6, -, -⟩ := bx1 wr [.slice xa n xk, .bool xs, .slice xb xm xd, .slice xb' xm' xd', .int .i64 op] 111
          have HW := Lib.hid hw6
          have C6 := Lib.hid c6
          clear hw6 c6
          go_upto_region 8 with (fail)
          rw [← HW.out]
          clear HW u0 u1 u2 u3 u4
          obtain ⟨q0, q1, q2, q3, q4⟩ := C6.out.c5
          have x6 := Ext.trans hx b6
          have HBD : Hid (∀ z ∈ L.zip T, fbad z = false) := by
            have h := HV.out
            unfold RefV at h
            by_cases h1 : L.length = T.length
            · rw [if_neg (fun h => h h1)] at h
              by_cases h2 : (L.zip T).any fbad = true
              · rw [if_pos h2] at h; exact absurd h.2 (by decide)
              · intro z hz
                by_cases hb : fbad z = true
                · exact absurd (List.any_eq_true.2 ⟨z, hz, hb⟩) h2
                · simpa using hb
            · rw [if_pos h1] at h; exact absurd h.2 (by decide)
          have HLT : Hid (L.length = T.length) := by
            have h := HV.out
            unfold RefV at h
            by_cases h1 : L.length = T.length
            · exact h1
            · rw [if_pos h1] at h; exact absurd h.2 (by decide)
          have HGO : Hid (1 ≤ op ∧ op ≤ 3) := by
            obtain ⟨i, hi, he⟩ := List.getElem_of_mem HP2.out
            have hiT : i < T.length := by have := HLT.out; omega
            have hz : (L[i], T[i]) ∈ L.zip T := by
              have h3 : i < (L.zip T).length := by rw [List.length_zip]; omega
              have := List.getElem_mem h3
              rwa [List.getElem_zip] at this
            have hb := HBD.out _ hz
            rw [he] at hb
            unfold fbad at hb
            rw [Bool.or_eq_false_iff] at hb
            have h4 := hb.1
            rw [← HOP.out]
            by_cases h5 : 1 ≤ p.2 ∧ p.2 ≤ 3
            · exact h5
            · rw [decide_eq_false h5] at h4; exact absurd h4 (by decide)
          rw [if_pos HGO.out, show chk op = 0 from if_pos HGO.out] at HHO
          have HHV : Hid (holdA p P = true → ∀ a ∈ L.take (j + 1), holdA a P = true ∧ 1 ≤ a.2 ∧ a.2 ≤ 3) := fun h a ha => by
            rw [HTK.out] at ha
            rcases List.mem_append.1 ha with ha | ha
            · exact hH.out a ha
            · rw [List.mem_singleton.1 ha]
              exact ⟨h, by rw [HOP.out]; exact HGO.out.1, by rw [HOP.out]; exact HGO.out.2⟩
          generalize holdA p P = hb at *
          go_wp2_with fail
          refine (HHO.out _ b6).mono ?_
          rintro e w7 ⟨_, rfl, b7, rfl⟩
          clear q0 q1 q2 q3 q4
          cases hb with
          | false =>
            go_wp2_with fail
            refine awake20.mono ?_
            rintro e w8 ⟨_, rfl, b8, rfl⟩
            go_wp2_with fail
            exact hR.out _ _ (Gives.mk (Ext.trans b05 (Ext.trans x6 (Ext.trans b7 b8))) rfl)
          | true =>
            go_wp2_with fail
            go_roundw
            case rel => exact ⟨j + 1, by go_num, by omega, Ext.trans x6 b7, HHV.out (by first | rfl | trivial)⟩
            case measure => simp [intOf] <;> omega
        · obtain rfl : j = L.length := by omega
          rw [List.take_length] at hH
          exact (farkas_sound HV.out hH.out).elim
  · have d0 : (er != 0) = true := bneT he
    clear he
    go_wp2_with fail
    refine awake20.mono ?_
    rintro e w4 ⟨_, rfl, b4, rfl⟩
    go_wp2_with fail
    exact hR.out _ _ (Gives.mk (Ext.trans b03 b4) rfl)
theorem own : ownKnob Try.prog.godebug = none := by kernel_rfl
theorem laidOut : laidOutB Try.prog = true := by kernel_rfl

set_option maxRecDepth 100000 in
theorem contract (H : Type) (enc : TypeId × Value → H) (W : World) (base : Nat) (args : Array Value) (ds gs : List (DataW H)) (before : List MemPlace)
    (hval : ∀ (j : Nat) t v, Try.f11.params[j]? = some t → args[j]? = some v → Value.okWide Try.prog W .any base t v)
    (hW : DataW.Whole enc Try.prog Try.f11.params.toList Rows.farkasSoundSpec.vars false W args.toList ds gs before) (hk : Rows.uptoSmall H (ds ++ gs) = true) :
    Calls Try.prog 11 args W fun e W' => ∃ v, e = .returned v ∧ Rows.farkasSoundSpec.post enc Try.prog Try.f11 false true false false W args v W' := by
  have hW' := hW
  obtain ⟨p, q, hA0, hV, rfl, hfz, hnd⟩ := hW
  have hA : DataW.TrodAll enc Try.prog W 0 (fun _ => true) true Try.f11.params.toList args.toList ds p := hA0
  rw [Try.params11] at hA hval
  obtain ⟨v0, vs0, d0, ds0, p0, q0, hargs, rfl, rfl, h0, r0⟩ := trodAll_cons hA
  obtain ⟨v1, vs1, d1, ds1, p1, q1, rfl, rfl, rfl, h1, r1⟩ := trodAll_cons r0
  obtain ⟨v2, vs2, d2, ds2, p2, q2, rfl, rfl, rfl, h2, r2⟩ := trodAll_cons r1
  obtain ⟨rfl, rfl, rfl⟩ := trodAll_nil r2
  obtain rfl : args = #[v0, v1, v2] := by cases args; simp_all
  obtain ⟨rfl, rfl⟩ := trodVars_none hV
  have hb := bulk_small hk
  simp only [List.append_nil, bulk_cons, bulk_nil] at hb
  have k0 := h0
  have lt0 : ∀ x ∈ p0, x.block < W.heap.size := by obtain ⟨m, hm⟩ := k0; exact DataW.trod_lt m _ _ _ hm
  obtain ⟨l0, rd0, bd0, len0⟩ := open_rowA Try.underlying97 (hval 0 97 v0 rfl rfl) h0
  have k1 := h1
  have lt1 : ∀ x ∈ p1, x.block < W.heap.size := by obtain ⟨m, hm⟩ := k1; exact DataW.trod_lt m _ _ _ hm
  obtain ⟨l1, rd1, bd1, len1⟩ := open_rowN Try.underlying22 (hval 1 22 v1 rfl rfl) h1
  have k2 := h2
  have lt2 : ∀ x ∈ p2, x.block < W.heap.size := by obtain ⟨m, hm⟩ := k2; exact DataW.trod_lt m _ _ _ hm
  obtain ⟨l2, rd2, bd2, len2⟩ := open_rowN Try.underlying22 (hval 2 22 v2 rfl rfl) h2
  clear hA0
  refine (walk rd0 (fun p hp => by have := bd0 p hp; omega) (by omega) rd1 (fun p hp => by have := bd1 p hp; omega) (by omega) rd2 (fun p hp => by have := bd2 p hp; omega) (by omega)).mono fun e W' ⟨v, he, bel, hv⟩ => ?_
  subst he hv
  exact ⟨_, rfl, _, _, _, [], _, [], hW', trodAll_mk1 (shut_bool Try.underlying4 _), (trodAll_cons_mk (Below.trod laidOut (by kernel_rfl) (of_decide_eq_true (by kernel_rfl)) k0 bel lt0) (trodAll_cons_mk (Below.trod laidOut (by kernel_rfl) (of_decide_eq_true (by kernel_rfl)) k1 bel lt1) (trodAll_cons_mk (Below.trod laidOut (by kernel_rfl) (of_decide_eq_true (by kernel_rfl)) k2 bel lt2) trodAll_mk0))), rfl, bel.frame _, fun h => by cases h⟩

set_option maxRecDepth 100000 in
theorem lifted (os : Os) (started : os.Started) (H : Type) (enc : TypeId × Value → H) (F : Stop.Interp) :
    ReturnsInHanded {} Try.checked os 11 .any ((Rows.OpenSpec.upto Rows.farkasSoundSpec).pre6 enc Try.prog Try.f11 Rows.farkasSoundUptoRow.domain false) (((Rows.OpenSpec.upto Rows.farkasSoundSpec).at F).post enc Try.prog Try.f11 false true false false) := by
  refine returnsInHanded_of_cond (C := Try.checked) (s := Rows.OpenSpec.upto Rows.farkasSoundSpec) (k := Rows.uptoSmall) rfl own started (by kernel_rfl) Try.func11
    (OpenSpec.witness (enc := enc) (C := Try.checked) (s := Rows.OpenSpec.upto Rows.farkasSoundSpec) (k := Rows.uptoSmall) rfl false ⟨#[], #[.slice none 0 0, .slice none 0 0, .slice none 0 0], []⟩ 8 (by kernel_rfl) (by kernel_rfl) (by kernel_rfl)
      (x := ([.nil, .nil, .nil], [], [])) (by kernel_rfl) rfl (by kernel_rfl)) ?_
  intro W base args ds gs before hval hW _ hk _
  exact contract H enc W base args ds gs before hval hW hk

theorem proved : Rows.FarkasSoundUptoSaid :=
  OpenClaim.holds_of_cond 11 Try.f11 rfl rfl rfl rfl rfl rfl rfl ⟨rfl, rfl, rfl, rfl, rfl⟩ rfl rfl rfl rfl rfl (by kernel_rfl) Try.func11 (by kernel_rfl)
    (of_decide_eq_true (by kernel_rfl)) (by unfold Func.isWrapper; first | (rw [if_pos (by decide +kernel)]; kernel_rfl) | (rw [if_neg (by decide +kernel)]; exact ⟨rfl, rfl⟩))
    (fun os started H enc _ F => lifted os started H enc F)
#print axioms proved

end Go.Proofs.Ytnbbhpihlcglgaa.farkasSound
