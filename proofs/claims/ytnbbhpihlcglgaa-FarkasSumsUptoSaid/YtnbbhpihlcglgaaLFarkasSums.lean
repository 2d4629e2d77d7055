/- FarkasSums: constraints taken so many times add up to the sum that is told, and what that shows is told rightly. Conditions: the arguments hold together at most 1048576 values (the second form, Upto). -/
import Derived.Test.YtnbbhpihlcglgaaPFarkIn
import Derived.Test.YtnbbhpihlcglgaaPAwake20
namespace Go.Proofs.Ytnbbhpihlcglgaa.farkasSums
open Go.ChangeShapes Go.WideShapes Go.ChangeAt Go.RowKit Go.Att

set_option maxHeartbeats 20000000 in
set_option maxRecDepth 100000 in
set_option linter.unusedSimpArgs false in
theorem walk {w : World} {v0 v1 : Value} {l0 : List NAT} {l1 : List NN} (hv0 : RdRow 5 RdNA w v0 l0) (hb0 : ∀ p ∈ l0, bA p ≤ 1048576) (_hn0 : l0.length ≤ 1048576)
    (hv1 : RdRow 3 RdNp w v1 l1) (hb1 : ∀ p ∈ l1, bN p ≤ 1048576) (_hn1 : l1.length ≤ 1048576) :
    Calls Try.prog 10 #[v0, v1] w (Gives w fun v' _ => v' = .bool true) := by
  refine via fun R hR => ?_
  have ZL := Lib.hid (smx_rowA hv0 10)
  have ZT : Hid (∀ p ∈ (l1.take 10).map qN, Sz 20 p) := fun p hp => (sz8_rowN hv1 10 p hp).le (by decide)
  have NL : Hid (((l0.take 10).map atA).length ≤ 10) := by show _ ≤ _; rw [List.length_map, List.length_take]; omega
  have NT : Hid (((l1.take 10).map qN).length ≤ 10) := by show _ ≤ _; rw [List.length_map, List.length_take]; omega
  have HAT : Hid (∀ w', Ext w w' → Calls Try.prog 54 #[v0] w' (Gives w' fun v' w' => RdRow 5 OwnA w' v' ((l0.take 10).map atA))) := fun w' x => atoms_in hb0 (hv0.ext RdNA.ext x)
  have HRT : Hid (∀ w', Ext w w' → Calls Try.prog 55 #[v1] w' (Gives w' fun v' w' => RdRow 3 (OwnQp 163) w' v' ((l1.take 10).map qN))) := fun w' x => rats_in hb1 (hv1.ext RdNp.ext x)
  obtain ⟨a0, k0, rfl, -, -⟩ := hv0.shape
  obtain ⟨a1, k1, rfl, -, -⟩ := hv1.shape
  clear hv0 hv1 hb0 hb1
  generalize (l0.take 10).map atA = L at *
  generalize (l1.take 10).map qN = T at *
  go_enter Try.func10, Try.ntmps10
  go_wp2_with fail
  refine (HAT.out _ (Ext.refl _)).mono ?_
  rintro e w1 ⟨v3, rfl, b1, o1⟩
  have O1 := Lib.hid o1
  clear o1
  go_wp2_with fail
  refine (HRT.out _ b1).mono ?_
  rintro e w2 ⟨v4, rfl, b2, o2⟩
  have O2 := Lib.hid o2
  have x2 := Ext.trans b1 b2
  clear o2
  go_wp2_with fail
  refine (HAT.out _ x2).mono ?_
  rintro e w3 ⟨v5, rfl, b3, o3⟩
  have O3 := Lib.hid o3
  clear o3
  go_wp2_with fail
  refine (HRT.out _ (Ext.trans x2 b3)).mono ?_
  rintro e w4 ⟨v6, rfl, b4, o4⟩
  have O4 := Lib.hid o4
  clear o4
  go_wp2_with fail
  refine (fsum_any (O3.out.ext OwnAt.ext b4) O4.out ZL.out ZT.out NL.out).mono ?_
  rintro e w5 ⟨_, rfl, b5, u, sb, er, rfl, hs⟩
  have HLI : Hid (∀ w', Ext w2 w' → Calls Try.prog 59 #[v3] w' (Gives w' fun v' w' => RdRow 5 OwnB9 w' v' L)) := fun w' x => list9_in (O1.out.ext OwnAt.ext (Ext.trans b2 x)) ZL.out (by have := NL.out; omega)
  have HNU : Hid (∀ w', Ext w2 w' → Calls Try.prog 24 #[v4] w' (Gives w' fun v' w' => RdRow 3 (OwnPp 4) w' v' T)) := fun w' x => nums_in (O2.out.ext OwnQ.ext x) ZT.out (by have := NT.out; omega)
  have HCK : Hid (∀ w' va vb, RdRow 5 OwnB9 w' va L → RdRow 3 (OwnPp 4) w' vb T → Calls Try.prog 58 #[va, vb] w' (Gives w' fun v' _ => v' = .int .i64 (chk20 L T))) := fun w' va vb h1 h2 => check20_any h1 h2 (by have := NL.out; omega)
  have HRF : Hid (∀ w' va vb, RdRow 5 OwnA w' va L → RdRow 3 (OwnQp 163) w' vb T → Calls Try.prog 57 #[va, vb] w' (Gives w' fun v' _ => ∃ t e, v' = .tuple #[.bool t, .int .i64 e] ∧ RefV L T t e)) := fun w' va vb h1 h2 => frefutes_any h1 h2 ZL.out ZT.out NL.out
  have x25 := Ext.trans b3 (Ext.trans b4 b5)
  clear O1 O2 O3 O4
  by_cases h0 : chk20 L T = 0
  · obtain ⟨l, hf, hc, hll, rfl, rfl, hX⟩ := sum_ok h0 hs
    obtain ⟨hlen, -⟩ := chk20_zero h0
    have H0 := Lib.hid h0
    have HSX : Hid (∀ w' va vb, RdRow 5 OwnB9 w' va L → RdRow 3 (OwnPp 4) w' vb T → Calls Try.prog 61 #[va, vb] w' (Gives w' fun v' _ => v' = .bool (fst' (L.zip T)))) := fun w' va vb h1 h2 => strict20_any h1 h2 hlen (by have := NL.out; omega)
    have HIS : Hid (∀ w' ve va vb, RdY w' ve l (fct (L.zip T)) → RdRow 5 OwnB9 w' va L → RdRow 3 (OwnPp 4) w' vb T → Calls Try.prog 62 #[ve, va, vb] w' (Gives w' fun v' _ => v' = .bool true)) := fun w' ve va vb h0 h1 h2 => is20_yes h0 hf hc (by omega) h1 h2 ZL.out ZT.out hlen NL.out
    have HRD : Hid (∀ w' va vb, RdRow 5 OwnB9 w' va L → RdRow 3 (OwnPp 4) w' vb T → Calls Try.prog 63 #[va, vb] w' (Gives w' fun v' _ => ∃ t : Bool, v' = .bool t ∧ (t = true ↔ RefD L T))) := fun w' va vb h1 h2 => refutes20_any h1 h2 ZL.out ZT.out hlen NL.out
    have HRO : Hid (∀ t e, RefV L T t e → e = 0 ∧ (t = true ↔ RefD L T)) := fun t e h => ref_ok h0 h
    have HTO : Hid (∀ w', Ext w5 w' → Calls Try.prog 33 #[u] w' (Gives w' fun v' w' => RdY w' v' l (fct (L.zip T)))) := fun w' x => (told8_any (hX.rd.ext x) (fun t ht => ((FormT.szs hf (K := 1301) fun y => by
        rw [hc]
        refine (fcf_sz (fun z hz => ⟨ZL.out _ (List.of_mem_zip hz).1, ZT.out _ (List.of_mem_zip hz).2⟩) y).le ?_
        have : (L.zip T).length ≤ 10 := by rw [List.length_zip]; have := NL.out; omega
        omega) t ht).le (by decide)) ((fct_sz (fun z hz => ⟨ZL.out _ (List.of_mem_zip hz).1, ZT.out _ (List.of_mem_zip hz).2⟩)).le (by
        have : (L.zip T).length ≤ 10 := by rw [List.length_zip]; have := NL.out; omega
        omega)) (by omega)).mono fun _ _ ⟨v, e, b, o⟩ => ⟨v, e, b, OwnEy.rd o⟩
    obtain ⟨a, k, s, b, m, d, b', m', d', rfl, -, -, -⟩ := hX.op
    clear hf hc hll hX hs hlen h0
    generalize l.length = nl at *
    generalize fct (L.zip T) = C at *
    generalize fst' (L.zip T) = S at *
    generalize RefD L T = RD at *
    obtain ⟨w6, hw6, b6, c6, -, -⟩ := bx1 w5 [.slice a nl k, .bool s, .slice b m d, .slice b' m' d'] 63
    have HW := Lib.hid hw6
    have C6 := Lib.hid c6
    have x26 := Ext.trans x25 b6
    clear hw6 c6
    go_upto_region 3 with (fail)
    rw [← HW.out]
    clear HW
    go_wp2_with fail
    refine (HAT.out _ (Ext.trans x2 x26)).mono ?_
    rintro e w7 ⟨v7, rfl, b7, o7⟩
    have O7 := Lib.hid o7
    clear o7
    go_wp2_with fail
    refine (HRT.out _ (Ext.trans x2 (Ext.trans x26 b7))).mono ?_
    rintro e w8 ⟨v8, rfl, b8, o8⟩
    have O8 := Lib.hid o8
    clear o8
    go_wp2_with fail
    refine (HRF.out _ _ _ (O7.out.ext OwnAt.ext b8) O8.out).mono ?_
    rintro e w9 ⟨_, rfl, b9, t, er, rfl, hv⟩
    obtain ⟨rfl, ht⟩ := HRO.out _ _ hv
    have HT := Lib.hid ht
    have x69 := Ext.trans b7 (Ext.trans b8 b9)
    have x29 := Ext.trans x26 x69
    clear hv ht O7 O8
    go_wp2_with fail
    refine (HLI.out _ x29).mono ?_
    rintro e w10 ⟨v10, rfl, b10, o10⟩
    have O10 := Lib.hid o10
    clear o10
    go_wp2_with fail
    refine (HNU.out _ (Ext.trans x29 b10)).mono ?_
    rintro e w11 ⟨v11, rfl, b11, o11⟩
    have O11 := Lib.hid o11
    clear o11
    go_wp2_with fail
    refine (HCK.out _ _ _ (O10.out.ext OwnBt.ext b11) O11.out).mono ?_
    rintro e w12 ⟨_, rfl, b12, rfl⟩
    rw [H0.out]
    have x612 := Ext.trans x69 (Ext.trans b10 (Ext.trans b11 b12))
    clear O10 O11
    go_wp2_with fail
    refine awake20.mono ?_
    rintro e w13 ⟨_, rfl, b13, rfl⟩
    have x613 := Ext.trans x612 b13
    go_wp2_with fail
    refine (HLI.out _ (Ext.trans x26 x613)).mono ?_
    rintro e w14 ⟨v14, rfl, b14, o14⟩
    have O14 := Lib.hid o14
    clear o14
    go_wp2_with fail
    refine (HNU.out _ (Ext.trans x26 (Ext.trans x613 b14))).mono ?_
    rintro e w15 ⟨v15, rfl, b15, o15⟩
    have O15 := Lib.hid o15
    clear o15
    go_wp2_with fail
    refine (HSX.out _ _ _ (O14.out.ext OwnBt.ext b15) O15.out).mono ?_
    rintro e w16 ⟨_, rfl, b16, rfl⟩
    have x616 := Ext.trans x613 (Ext.trans b14 (Ext.trans b15 b16))
    obtain ⟨g0, g1, g2, g3⟩ := (C6.out.ext x616).c4
    clear O14 O15
    go_wp2_with fail
    refine (HTO.out _ (Ext.trans b6 x616)).mono ?_
    rintro e w17 ⟨v17, rfl, b17, o17⟩
    have O17 := Lib.hid o17
    clear o17 g0 g1 g2 g3
    have x617 := Ext.trans x616 b17
    go_wp2_with fail
    refine (HLI.out _ (Ext.trans x26 x617)).mono ?_
    rintro e w18 ⟨v18, rfl, b18, o18⟩
    have O18 := Lib.hid o18
    clear o18
    go_wp2_with fail
    refine (HNU.out _ (Ext.trans x26 (Ext.trans x617 b18))).mono ?_
    rintro e w19 ⟨v19, rfl, b19, o19⟩
    have O19 := Lib.hid o19
    clear o19
    go_wp2_with fail
    refine (HIS.out _ _ _ _ (O17.out.ext (Ext.trans b18 b19)) (O18.out.ext OwnBt.ext b19) O19.out).mono ?_
    rintro e w20 ⟨_, rfl, b20, rfl⟩
    have x620 := Ext.trans x617 (Ext.trans b18 (Ext.trans b19 b20))
    clear O17 O18 O19
    go_wp2_with fail
    refine (HLI.out _ (Ext.trans x26 x620)).mono ?_
    rintro e w21 ⟨v21, rfl, b21, o21⟩
    have O21 := Lib.hid o21
    clear o21
    go_wp2_with fail
    refine (HNU.out _ (Ext.trans x26 (Ext.trans x620 b21))).mono ?_
    rintro e w22 ⟨v22, rfl, b22, o22⟩
    have O22 := Lib.hid o22
    clear o22
    go_wp2_with fail
    refine (HRD.out _ _ _ (O21.out.ext OwnBt.ext b22) O22.out).mono ?_
    rintro e w23 ⟨_, rfl, b23, t', rfl, ht'⟩
    obtain rfl : t = t' := Bool.eq_iff_iff.2 (HT.out.trans ht'.symm)
    clear ht'
    go_wp2_with fail
    exact hR.out _ _ (Gives.mk (Ext.trans x2 (Ext.trans x26 (Ext.trans x620 (Ext.trans b21 (Ext.trans b22 b23))))) (by first | rfl | simp))
  · obtain ⟨hX, rfl, rfl⟩ := sum_bad h0 hs
    have HRO : Hid (∀ t e, RefV L T t e → t = false ∧ e = chk20 L T) := fun t e h => ref_bad h0 h
    have d0 : (chk20 L T != 0) = true := bneT h0
    obtain ⟨a, k, s, b, m, d, b', m', d', rfl, -, -, HX⟩ := hX.op
    have HSG : Hid (∀ w', Ext w5 w' → Calls Try.prog 20 #[.agg #[.bool s, .slice b m d, .slice b' m' d']] w' (Gives w' fun v' _ => v' = .int .i64 0)) := fun w' x => by
      obtain ⟨_, _, _, _, he, -, h⟩ := HX.out
      simp only [Value.agg.injEq, Array.mk.injEq, List.cons.injEq, and_true] at he
      obtain ⟨rfl, rfl, rfl, rfl⟩ := he
      exact rsign_any (h.rd.ext x)
    rw [List.length_nil] at *
    clear hX HX hs h0
    generalize chk20 L T = E at *
    obtain ⟨w6, hw6, b6, c6, -, -⟩ := bx1 w5 [.slice a 0 k, .bool s, .slice b m d, .slice b' m' d'] 63
    have HW := Lib.hid hw6
    have C6 := Lib.hid c6
    have x26 := Ext.trans x25 b6
    clear hw6 c6
    go_upto_region 3 with (fail)
    rw [← HW.out]
    clear HW
    go_wp2_with fail
    refine (HAT.out _ (Ext.trans x2 x26)).mono ?_
    rintro e w7 ⟨v7, rfl, b7, o7⟩
    have O7 := Lib.hid o7
    clear o7
    go_wp2_with fail
    refine (HRT.out _ (Ext.trans x2 (Ext.trans x26 b7))).mono ?_
    rintro e w8 ⟨v8, rfl, b8, o8⟩
    have O8 := Lib.hid o8
    clear o8
    go_wp2_with fail
    refine (HRF.out _ _ _ (O7.out.ext OwnAt.ext b8) O8.out).mono ?_
    rintro e w9 ⟨_, rfl, b9, t, er, rfl, hv⟩
    obtain ⟨rfl, rfl⟩ := HRO.out _ _ hv
    have x69 := Ext.trans b7 (Ext.trans b8 b9)
    have x29 := Ext.trans x26 x69
    clear hv O7 O8
    go_wp2_with fail
    refine (HLI.out _ x29).mono ?_
    rintro e w10 ⟨v10, rfl, b10, o10⟩
    have O10 := Lib.hid o10
    clear o10
    go_wp2_with fail
    refine (HNU.out _ (Ext.trans x29 b10)).mono ?_
    rintro e w11 ⟨v11, rfl, b11, o11⟩
    have O11 := Lib.hid o11
    clear o11
    go_wp2_with fail
    refine (HCK.out _ _ _ (O10.out.ext OwnBt.ext b11) O11.out).mono ?_
    rintro e w12 ⟨_, rfl, b12, rfl⟩
    have x612 := Ext.trans x69 (Ext.trans b10 (Ext.trans b11 b12))
    clear O10 O11
    go_wp2_with fail
    refine awake20.mono ?_
    rintro e w13 ⟨_, rfl, b13, rfl⟩
    have x613 := Ext.trans x612 b13
    obtain ⟨g0, g1, g2, g3⟩ := (C6.out.ext x613).c4
    go_wp2_with fail
    refine (HSG.out _ (Ext.trans b6 x613)).mono ?_
    rintro e w14 ⟨_, rfl, b14, rfl⟩
    go_wp2_with fail
    exact hR.out _ _ (Gives.mk (Ext.trans x2 (Ext.trans x26 (Ext.trans x613 b14))) (by first | rfl | simp))
theorem own : ownKnob Try.prog.godebug = none := by kernel_rfl
theorem laidOut : laidOutB Try.prog = true := by kernel_rfl

set_option maxRecDepth 100000 in
theorem contract (H : Type) (enc : TypeId × Value → H) (W : World) (base : Nat) (args : Array Value) (ds gs : List (DataW H)) (before : List MemPlace)
    (hval : ∀ (j : Nat) t v, Try.f10.params[j]? = some t → args[j]? = some v → Value.okWide Try.prog W .any base t v)
    (hW : DataW.Whole enc Try.prog Try.f10.params.toList Rows.farkasSumsSpec.vars false W args.toList ds gs before) (hk : Rows.uptoSmall H (ds ++ gs) = true) :
    Calls Try.prog 10 args W fun e W' => ∃ v, e = .returned v ∧ Rows.farkasSumsSpec.post enc Try.prog Try.f10 false true false false W args v W' := by
  have hW' := hW
  obtain ⟨p, q, hA0, hV, rfl, hfz, hnd⟩ := hW
  have hA : DataW.TrodAll enc Try.prog W 0 (fun _ => true) true Try.f10.params.toList args.toList ds p := hA0
  rw [Try.params10] at hA hval
  obtain ⟨v0, vs0, d0, ds0, p0, q0, hargs, rfl, rfl, h0, r0⟩ := trodAll_cons hA
  obtain ⟨v1, vs1, d1, ds1, p1, q1, rfl, rfl, rfl, h1, r1⟩ := trodAll_cons r0
  obtain ⟨rfl, rfl, rfl⟩ := trodAll_nil r1
  obtain rfl : args = #[v0, v1] := by cases args; simp_all
  obtain ⟨rfl, rfl⟩ := trodVars_none hV
  have hb := bulk_small hk
  simp only [List.append_nil, bulk_cons, bulk_nil] at hb
  have k0 := h0
  have lt0 : ∀ x ∈ p0, x.block < W.heap.size := by obtain ⟨m, hm⟩ := k0; exact DataW.trod_lt m _ _ _ hm
  obtain ⟨l0, rd0, bd0, len0⟩ := open_rowA Try.underlying97 (hval 0 97 v0 rfl rfl) h0
  have k1 := h1
  have lt1 : ∀ x ∈ p1, x.block < W.heap.size := by obtain ⟨m, hm⟩ := k1; exact DataW.trod_lt m _ _ _ hm
  obtain ⟨l1, rd1, bd1, len1⟩ := open_rowN Try.underlying22 (hval 1 22 v1 rfl rfl) h1
  clear hA0
  refine (walk rd0 (fun p hp => by have := bd0 p hp; omega) (by omega) rd1 (fun p hp => by have := bd1 p hp; omega) (by omega)).mono fun e W' ⟨v, he, bel, hv⟩ => ?_
  subst he hv
  exact ⟨_, rfl, _, _, _, [], _, [], hW', trodAll_mk1 (shut_bool Try.underlying4 _), (trodAll_cons_mk (Below.trod laidOut (by kernel_rfl) (of_decide_eq_true (by kernel_rfl)) k0 bel lt0) (trodAll_cons_mk (Below.trod laidOut (by kernel_rfl) (of_decide_eq_true (by kernel_rfl)) k1 bel lt1) trodAll_mk0)), rfl, bel.frame _, fun h => by cases h⟩

set_option maxRecDepth 100000 in
theorem lifted (os : Os) (started : os.Started) (H : Type) (enc : TypeId × Value → H) (F : Stop.Interp) :
    ReturnsInHanded {} Try.checked os 10 .any ((Rows.OpenSpec.upto Rows.farkasSumsSpec).pre6 enc Try.prog Try.f10 Rows.farkasSumsUptoRow.domain false) (((Rows.OpenSpec.upto Rows.farkasSumsSpec).at F).post enc Try.prog Try.f10 false true false false) := by
  refine returnsInHanded_of_cond (C := Try.checked) (s := Rows.OpenSpec.upto Rows.farkasSumsSpec) (k := Rows.uptoSmall) rfl own started (by kernel_rfl) Try.func10
    (OpenSpec.witness (enc := enc) (C := Try.checked) (s := Rows.OpenSpec.upto Rows.farkasSumsSpec) (k := Rows.uptoSmall) rfl false ⟨#[], #[.slice none 0 0, .slice none 0 0], []⟩ 8 (by kernel_rfl) (by kernel_rfl) (by kernel_rfl)
      (x := ([.nil, .nil], [], [])) (by kernel_rfl) rfl (by kernel_rfl)) ?_
  intro W base args ds gs before hval hW _ hk _
  exact contract H enc W base args ds gs before hval hW hk

theorem proved : Rows.FarkasSumsUptoSaid :=
  OpenClaim.holds_of_cond 10 Try.f10 rfl rfl rfl rfl rfl rfl rfl ⟨rfl, rfl, rfl, rfl, rfl⟩ rfl rfl rfl rfl rfl (by kernel_rfl) Try.func10 (by kernel_rfl)
    (of_decide_eq_true (by kernel_rfl)) (by unfold Func.isWrapper; first | (rw [if_pos (by decide +kernel)]; kernel_rfl) | (rw [if_neg (by decide +kernel)]; exact ⟨rfl, rfl⟩))
    (fun os started H enc _ F => lifted os started H enc F)
#print axioms proved

end Go.Proofs.Ytnbbhpihlcglgaa.farkasSums
