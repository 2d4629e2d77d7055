/- RtextParses: any text is read as the rational number that it says, fraction or decimal, or refused as the document says. Conditions: the arguments hold together at most 1048576 values (the second form, Upto); the two tables of unicode/utf8 hold what the text lays. -/
import Derived.Test.YtgajpmcjjefghaaDoorDoor
import Derived.Test.YtgajpmcjjefghaaDoorFrameN
import Derived.Test.YtgajpmcjjefghaaDoorPAwake06
import Derived.Test.YtgajpmcjjefghaaDoorPR6Parse
import Derived.Test.YtgajpmcjjefghaaDoorPIs05
import Derived.Test.YtgajpmcjjefghaaDoorPRatSign
namespace Go.Proofs.YtgajpmcjjefghaaDoor.rtextParses
open Go.ChangeShapes Go.WideShapes Go.ChangeAt Go.RowKit Go.Att

theorem rtparse_big {w : World} {s : ByteArray} (h : 20000 < s.size) :
    Calls Tryd.prog 34 #[.string s] w (Gives w fun v' _ => v' = .tuple #[.agg #[.bool false, .slice none 0 0, .slice none 0 0], .int .i64 2]) := by
  refine via fun R hR => ?_
  obtain ⟨w1, hw1, b1, -, r1, -⟩ := bx1 w [.bool false, .slice none 0 0, .slice none 0 0] 50
  have HW := Lib.hid hw1
  have R1 : Hid (Rt w1 w.heap.size 3 50) := by show Rt _ _ _ _; rw [hw1]; exact Rt.new w [_, _, _] _
  clear hw1 r1
  go_enter Tryd.func34, Tryd.ntmps34
  go_upto_region 1 with (fail)
  rw [← HW.out]
  clear HW
  obtain ⟨_, _, _, j0, j1, j2, i0, i1, i2⟩ := R1.out.rm.c3
  go_wp2_with fail
  refine bodyPost_ret (v := .tuple #[.agg #[.bool false, .slice none 0 0, .slice none 0 0], .int .i64 2]) (by simp [results, Tryd.results34, go_sem, j0, j1, j2]) rfl ?_
  exact hR.out _ _ (Gives.mk (put3_below b1 (Nat.le_refl _) _ _ _) rfl)
theorem read_sz {L : List Nat} (hl : L.length ≤ 300) {q : Rat} (h : readT L = some q) : Sz 100000 q := by
  have hT : (stripN L).2.length ≤ 300 := by rw [stripN_len]; omega
  have key : ∀ (neg : Bool) (X : List Nat) (d K : Nat), X.length ≤ 300 → K ≤ 301 → d < 10 ^ K → frac neg X d = some q → Sz 100000 q := fun neg X d K hX hK hd hf => by
    unfold frac at hf
    split at hf
    · rename_i hg
      split at hf
      · exact absurd hf (by simp)
      · rename_i h0
        rw [← Option.some.inj hf]
        exact Sz.of h0 (limbs_of_pow (numOf_lt _ (goodB_iff.1 hg).2) (by omega)) (limbs_of_pow hd (by omega))
    · exact absurd hf (by simp)
  unfold readT at h
  split at h
  · split at h
    · rename_i hg
      exact key _ _ _ _ (by rw [List.length_take]; omega) (by rw [List.length_drop]; omega) (numOf_lt _ (goodB_iff.1 hg).2) h
    · exact absurd h (by simp)
  · split at h
    · split at h
      · exact absurd h (by simp)
      · exact key _ _ _ (((stripN L).2.drop (pos 46 (stripN L).2 + 1)).length + 1) (by rw [List.length_append, List.length_take, List.length_drop]; omega) (by rw [List.length_drop]; omega) (Nat.pow_lt_pow_right (by decide) (Nat.lt_succ_self _)) h
    · exact key _ _ _ 1 hT (by decide) (by decide) h
set_option maxHeartbeats 4000000 in
set_option maxRecDepth 100000 in
theorem walk {w : World} (s : ByteArray) (hs : s.size ≤ 9223372036854775807) (hm : ∃ m, w.cell? ⟨0, 0, none⟩ = some (.int .i64 m)) :
    Calls Tryd.prog 9 #[.string s] w (Gives w fun v' _ => v' = .bool true) := by
  refine via fun R hR => ?_
  have HM : Hid (∀ w', Ext w w' → ∃ m, w'.cell? ⟨0, 0, none⟩ = some (.int .i64 m)) := fun w' x => by
    obtain ⟨m, hm⟩ := hm
    exact ⟨m, x.cell hm⟩
  by_cases hbig : 20000 < s.size
  · have HPB := Lib.hid (rtparse_big (w := w) hbig)
    clear hm
    go_enter Tryd.func9, Tryd.ntmps9
    go_wp2_with fail
    refine HPB.out.mono ?_
    rintro e w1 ⟨_, rfl, b1, rfl⟩
    obtain ⟨w2, hw2, b2, c2, -, -⟩ := bx1 w1 [.bool false, .slice none 0 0, .slice none 0 0] 50
    have HW := Lib.hid hw2
    have C2 := Lib.hid c2
    clear hw2 c2
    go_upto_region 2 with (fail)
    rw [← HW.out]
    clear HW
    go_wp2_with fail
    refine (awake06 (HM.out _ (Ext.trans b1 b2))).mono ?_
    rintro e w3 ⟨_, rfl, b3, rfl⟩
    obtain ⟨k0, k1, k2⟩ := (C2.out.ext b3).c3
    go_wp2_with fail
    clear k0 k1 k2
    refine (rsign_any (RdQ.zero w3)).mono ?_
    rintro e w9 ⟨_, rfl, b9, rfl⟩
    rw [show (0 : Rat).num.sign = 0 by rw [Rat.zero_num]; rfl]
    go_wp2_with fail
    exact hR.out _ _ (Gives.mk (Ext.trans (Ext.trans b1 (Ext.trans b2 b3)) b9) rfl)
  · obtain ⟨L, hL⟩ : ∃ L, L = bsOf s := ⟨_, rfl⟩
    have hsL : s = strOf L := by rw [hL, strOf_bsOf]
    have hf : Fit 256 L := by rw [hL]; exact bsOf_fit s
    clear hL
    subst hsL
    have hsz := strOf_size L
    have hl : L.length ≤ 20000 := by omega
    have HPA := Lib.hid (rtparse_any (w := w) hf hl hm)
    clear hm hbig hs
    by_cases hmid : 200 < L.length
    · generalize strOf L = S at *
      cases hrd : readT L with
      | none =>
        rw [hrd] at HPA
        go_enter Tryd.func9, Tryd.ntmps9
        go_wp2_with fail
        refine HPA.out.mono ?_
        rintro e w1 ⟨_, rfl, b1, rfl⟩
        obtain ⟨w2, hw2, b2, c2, -, -⟩ := bx1 w1 [.bool false, .slice none 0 0, .slice none 0 0] 50
        have HW := Lib.hid hw2
        have C2 := Lib.hid c2
        clear hw2 c2
        go_upto_region 2 with (fail)
        rw [← HW.out]
        clear HW
        go_wp2_with fail
        refine (awake06 (HM.out _ (Ext.trans b1 b2))).mono ?_
        rintro e w3 ⟨_, rfl, b3, rfl⟩
        obtain ⟨k0, k1, k2⟩ := (C2.out.ext b3).c3
        go_wp2_with fail
        clear k0 k1 k2
        refine (rsign_any (RdQ.zero w3)).mono ?_
        rintro e w9 ⟨_, rfl, b9, rfl⟩
        rw [show (0 : Rat).num.sign = 0 by rw [Rat.zero_num]; rfl]
        go_wp2_with fail
        exact hR.out _ _ (Gives.mk (Ext.trans (Ext.trans b1 (Ext.trans b2 b3)) b9) rfl)
      | some q =>
        rw [hrd] at HPA
        go_enter Tryd.func9, Tryd.ntmps9
        go_wp2_with fail
        refine HPA.out.mono ?_
        rintro e w1 ⟨_, rfl, b1, o, rfl, o1⟩
        obtain ⟨z0, d3, n3, e3, d4, n4, e4, rfl, O1⟩ := o1.op
        obtain ⟨w2, hw2, b2, c2, -, -⟩ := bx1 w1 [.bool z0, .slice d3 n3 e3, .slice d4 n4 e4] 50
        have HW := Lib.hid hw2
        have C2 := Lib.hid c2
        clear hw2 c2
        go_upto_region 2 with (fail)
        rw [← HW.out]
        clear HW
        go_wp2_with fail
        refine (awake06 (HM.out _ (Ext.trans b1 b2))).mono ?_
        rintro e w3 ⟨_, rfl, b3, rfl⟩
        go_wp2_with fail
        exact hR.out _ _ (Gives.mk (Ext.trans b1 (Ext.trans b2 b3)) rfl)
    · have HPR : Hid (∀ w, Calls Tryd.prog 36 #[.string (strOf L)] w (Gives w fun v' w' => RtP w' v' (readT L))) := fun w => r6parse_any hf (by omega)
      cases hrd : readT L with
      | none =>
        rw [hrd] at HPA HPR
        unfold RtP at HPR
        generalize strOf L = S at *
        go_enter Tryd.func9, Tryd.ntmps9
        go_wp2_with fail
        refine HPA.out.mono ?_
        rintro e w1 ⟨_, rfl, b1, rfl⟩
        obtain ⟨w2, hw2, b2, c2, -, -⟩ := bx1 w1 [.bool false, .slice none 0 0, .slice none 0 0] 50
        have HW := Lib.hid hw2
        have C2 := Lib.hid c2
        clear hw2 c2
        go_upto_region 2 with (fail)
        rw [← HW.out]
        clear HW
        go_wp2_with fail
        refine (HPR.out _).mono ?_
        rintro e w3 ⟨_, rfl, b3, s3, a3, l3, c3, a4, l4, c4, rfl⟩
        obtain ⟨w4, hw4, b4, -, -, -⟩ := bx1 w3 [.bool s3, .slice a3 l3 c3, .slice a4 l4 c4] 52
        have HW := Lib.hid hw4
        clear hw4
        go_upto_region 7 with (fail)
        rw [← HW.out]
        clear HW
        go_wp2_with fail
        refine (awake06 (HM.out _ (Ext.trans b1 (Ext.trans b2 (Ext.trans b3 b4))))).mono ?_
        rintro e w5 ⟨_, rfl, b5, rfl⟩
        obtain ⟨k0, k1, k2⟩ := (C2.out.ext (Ext.trans b3 (Ext.trans b4 b5))).c3
        go_wp2_with fail
        clear k0 k1 k2
        refine (rsign_any (RdQ.zero w5)).mono ?_
        rintro e w9 ⟨_, rfl, b9, rfl⟩
        rw [show (0 : Rat).num.sign = 0 by rw [Rat.zero_num]; rfl]
        go_wp2_with fail
        exact hR.out _ _ (Gives.mk (Ext.trans (Ext.trans b1 (Ext.trans b2 (Ext.trans b3 (Ext.trans b4 b5)))) b9) rfl)
      | some q =>
        have SQ := Lib.hid (read_sz (by omega) hrd)
        rw [hrd] at HPA HPR
        unfold RtP at HPR
        generalize strOf L = S at *
        go_enter Tryd.func9, Tryd.ntmps9
        go_wp2_with fail
        refine HPA.out.mono ?_
        rintro e w1 ⟨_, rfl, b1, o, rfl, o1⟩
        obtain ⟨z0, d3, n3, e3, d4, n4, e4, rfl, O1⟩ := o1.op
        obtain ⟨w2, hw2, b2, c2, -, -⟩ := bx1 w1 [.bool z0, .slice d3 n3 e3, .slice d4 n4 e4] 50
        have HW := Lib.hid hw2
        have C2 := Lib.hid c2
        clear hw2 c2
        go_upto_region 2 with (fail)
        rw [← HW.out]
        clear HW
        go_wp2_with fail
        refine (HPR.out _).mono ?_
        rintro e w3 ⟨_, rfl, b3, o, rfl, o3⟩
        obtain ⟨z1, d5, n5, e5, d6, n6, e6, rfl, O3⟩ := o3.op
        obtain ⟨w4, hw4, b4, c4, -, -⟩ := bx1 w3 [.bool z1, .slice d5 n5 e5, .slice d6 n6 e6] 52
        have HW := Lib.hid hw4
        have C4 := Lib.hid c4
        clear hw4 c4 o1 o3
        go_upto_region 7 with (fail)
        rw [← HW.out]
        clear HW
        go_wp2_with fail
        refine (awake06 (HM.out _ (Ext.trans b1 (Ext.trans b2 (Ext.trans b3 b4))))).mono ?_
        rintro e w5 ⟨_, rfl, b5, rfl⟩
        obtain ⟨k0, k1, k2⟩ := (C2.out.ext (Ext.trans b3 (Ext.trans b4 b5))).c3
        obtain ⟨q0, q1, q2⟩ := (C4.out.ext b5).c3
        go_wp2_with fail
        clear k0 k1 k2 q0 q1 q2
        refine (is_yes (O1.out.rd.ext (Ext.trans b2 (Ext.trans b3 (Ext.trans b4 b5)))) (O3.out.rd.ext (Ext.trans b4 b5)) (SQ.out.le (by decide))).mono ?_
        rintro e w6 ⟨_, rfl, b6, rfl⟩
        go_wp2_with fail
        exact hR.out _ _ (Gives.mk (Ext.trans b1 (Ext.trans b2 (Ext.trans b3 (Ext.trans b4 (Ext.trans b5 b6))))) rfl)
theorem own : ownKnob Tryd.prog.godebug = none := by kernel_rfl
theorem laidOut : laidOutB Tryd.prog = true := by kernel_rfl

set_option maxRecDepth 100000 in
theorem contract (H : Type) (enc : TypeId × Value → H) (W : World) (base : Nat) (args : Array Value) (ds gs : List (DataW H)) (before : List MemPlace)
    (hval : ∀ (j : Nat) t v, Tryd.f9.params[j]? = some t → args[j]? = some v → Value.okWide Tryd.prog W .any base t v)
    (hW : DataW.Whole enc Tryd.prog Tryd.f9.params.toList Rows.rtextParsesSpec.vars false W args.toList ds gs before) (hk : Rows.uptoSmall H (ds ++ gs) = true) (hm : ∃ m, W.cell? ⟨0, 0, none⟩ = some (.int .i64 m)) :
    Calls Tryd.prog 9 args W fun e W' => ∃ v, e = .returned v ∧ Rows.rtextParsesSpec.post enc Tryd.prog Tryd.f9 false true false false W args v W' := by
  have hW' := hW
  obtain ⟨p, q, hA0, hV, rfl, hfz, hnd⟩ := hW
  have hA : DataW.TrodAll enc Tryd.prog W 0 (fun _ => true) true Tryd.f9.params.toList args.toList ds p := hA0
  rw [Tryd.params9] at hA hval
  obtain ⟨v0, vs0, d0, ds0, p0, q0, hargs, rfl, rfl, h0, r0⟩ := trodAll_cons hA
  obtain ⟨rfl, rfl, rfl⟩ := trodAll_nil r0
  obtain rfl : args = #[v0] := by cases args; simp_all
  obtain ⟨rfl, rfl⟩ := trodVars_none hV
  have hb := bulk_small hk
  simp only [List.append_nil, bulk_cons, bulk_nil] at hb
  obtain ⟨s0, rfl, rfl, rfl, ws0⟩ := Go.ChangeMaps.open_string Tryd.underlying9 (hval 0 9 v0 rfl rfl) h0
  clear hA0
  refine (walk s0 ws0 hm).mono fun e W' ⟨v, he, bel, hv⟩ => ?_
  subst he hv
  exact ⟨_, rfl, _, _, _, [], _, [], hW', trodAll_mk1 (shut_bool Tryd.underlying4 _), (trodAll_cons_mk (Go.ChangeMaps.shut_string Tryd.underlying9 ws0) trodAll_mk0), rfl, bel.frame _, fun h => by cases h⟩

theorem laid_met (os : Os) : laidMet Tryd.prog Rows.rtextParsesUptoRow.laid ((laidWorld os).forCall (fun _ _ => 0) ⟨#[], #[.string ⟨#[]⟩], []⟩).memory :=
  laidMet_of_run' 8 (by kernel_rfl) (by kernel_rfl)
theorem reads (os : Os) {H : Type} (enc : TypeId × Value → H) : ∃ places, DataW.whole enc Tryd.prog ((laidWorld os).forCall (fun _ _ => 0) ⟨#[], #[.string ⟨#[]⟩], []⟩).memory Tryd.f9.params.toList Rows.rtextParsesSpec.vars false (#[.string ⟨#[]⟩] : Array Value).toList 8 = some ([.lit (.string [])], [], places) :=
  ⟨[], by kernel_rfl⟩

set_option maxRecDepth 100000 in
theorem lifted (os : Os) (started : os.Started) (H : Type) (enc : TypeId × Value → H) (F : Stop.Interp) :
    ReturnsInHanded {} Tryd.checked os 9 .any ((Rows.OpenSpec.upto Rows.rtextParsesSpec).preRow enc Tryd.prog Tryd.f9 Rows.rtextParsesUptoRow.domain false Rows.rtextParsesUptoRow.laid) (((Rows.OpenSpec.upto Rows.rtextParsesSpec).at F).post enc Tryd.prog Tryd.f9 false true false false) := by
  obtain ⟨places, hx⟩ := reads os enc
  refine returnsInHanded_of_row (C := Tryd.checked) (s := Rows.OpenSpec.upto Rows.rtextParsesSpec) own started (by kernel_rfl) Tryd.func9
    (witness_row_at (enc := enc) (C := Tryd.checked) false (laidWorld os) #[.string ⟨#[]⟩] rfl (by kernel_rfl) (by kernel_rfl) (by kernel_rfl)
      (OpenSpec.preRow_of_cond 8 hx (by kernel_rfl) (fun k hk => by cases hk; kernel_rfl) (by kernel_rfl) (laid_met os))) ?_
  intro W base args ds gs before hval hW _ hcond _ _ hsh _
  exact contract H enc W base args ds gs before hval hW (hcond _ rfl) (Tryd.maxLen_cell hsh)

theorem said : Rows.RtextParsesUptoSaid :=
  OpenClaim.holds_of_cond 9 Tryd.f9 rfl rfl rfl rfl rfl rfl rfl ⟨rfl, rfl, rfl, rfl, rfl⟩ rfl rfl rfl rfl rfl (by kernel_rfl) Tryd.func9 (by kernel_rfl)
    (of_decide_eq_true (by kernel_rfl)) (by unfold Func.isWrapper; first | (rw [if_pos (by decide +kernel)]; kernel_rfl) | (rw [if_neg (by decide +kernel)]; exact ⟨rfl, rfl⟩))
    (fun os started H enc _ F => by rw [OpenClaim.pre_eq_preRow]; exact lifted os started H enc F)

/-- No parameter wants a stand-in; the program's own looks are off: what the card asks. -/
theorem plain (f : FuncId) (fn : Func) (hf : Tryd.pinned.checked.prog.funcNamed "attest/attestlaw06.RtextParses" = some f) (hfn : Tryd.pinned.checked.prog.funcs[f]? = some fn) :
    false = Tryd.pinned.checked.prog.looks [] ∧ ∀ (j : Nat) t, fn.params[j]? = some t → Tryd.pinned.checked.prog.wantsStandIn t = false := by
  obtain rfl : f = 9 := Option.some.inj ((show Tryd.prog.funcNamed "attest/attestlaw06.RtextParses" = some 9 by kernel_rfl).symm.trans hf) |>.symm
  obtain rfl : fn = Tryd.f9 := (Option.some.inj (Tryd.func9.symm.trans hfn)).symm
  refine ⟨by kernel_rfl, fun j t ht => ?_⟩
  rw [Tryd.params9] at ht
  have hm : t ∈ #[9] := Array.mem_of_getElem? ht
  simp only [List.mem_toArray, List.mem_cons, List.not_mem_nil, or_false] at hm
  subst hm
  exact (show Tryd.prog.wantsStandIn 9 = false by kernel_rfl)

/-- The card. -/
theorem proved : Rows.RtextParsesUptoCardSaid :=
  Claim7.holds_tied_plain_at .later [] _ _ _ _ said (fun _ h => by cases h) (by kernel_rfl) (fun _ h => by cases h) rtextParsesUpto_row_tie rfl ⟨rfl, rfl⟩ (by kernel_rfl) rfl plain (by kernel_rfl)
#print axioms proved

end Go.Proofs.YtgajpmcjjefghaaDoor.rtextParses
