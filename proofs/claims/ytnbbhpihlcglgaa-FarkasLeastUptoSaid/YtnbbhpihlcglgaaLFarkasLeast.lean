/- FarkasLeast: dividing Farkas's numbers, or leaving out those that are 0, shows the same. Conditions: the arguments hold together at most 1048576 values (the second form, Upto). -/
import Derived.Test.YtnbbhpihlcglgaaFarkAll
import Derived.Test.YtnbbhpihlcglgaaPAwake20
namespace Go.Proofs.Ytnbbhpihlcglgaa.farkasLeast
open Go.ChangeShapes Go.WideShapes Go.ChangeAt Go.RowKit Go.Att

set_option maxHeartbeats 20000000 in
set_option maxRecDepth 100000 in
set_option linter.unusedSimpArgs false in
theorem walk {w : World} {v0 v1 : Value} {l0 : List NAT} {l1 : List NN} (hv0 : RdRow 5 RdNA w v0 l0) (hb0 : ∀ p ∈ l0, bA p ≤ 1048576) (_hn0 : l0.length ≤ 1048576)
    (hv1 : RdRow 3 RdNp w v1 l1) (hb1 : ∀ p ∈ l1, bN p ≤ 1048576) (_hn1 : l1.length ≤ 1048576) :
    Calls Try.prog 12 #[v0, v1] w (Gives w fun v' _ => v' = .bool true) := by
  refine via fun R hR => ?_
  have ZL := Lib.hid (smx_rowA hv0 10)
  have Z8 := Lib.hid (sz8_rowN hv1 10)
  have NL : Hid (((l0.take 10).map atA).length ≤ 10) := by show _ ≤ _; rw [List.length_map, List.length_take]; omega
  have NT : Hid (((l1.take 10).map qN).length ≤ 10) := by show _ ≤ _; rw [List.length_map, List.length_take]; omega
  have HAT : Hid (∀ w', Ext w w' → Calls Try.prog 54 #[v0] w' (Gives w' fun v' w' => RdRow 5 OwnA w' v' ((l0.take 10).map atA))) := fun w' x => atoms_in hb0 (hv0.ext RdNA.ext x)
  have HRT : Hid (∀ w', Ext w w' → Calls Try.prog 55 #[v1] w' (Gives w' fun v' w' => RdRow 3 (OwnQp 163) w' v' ((l1.take 10).map qN))) := fun w' x => rats_in hb1 (hv1.ext RdNp.ext x)
  obtain ⟨a0, k0, rfl, -, -⟩ := hv0.shape
  obtain ⟨a1, k1, rfl, -, -⟩ := hv1.shape
  clear hv0 hv1 hb0 hb1
  generalize (l0.take 10).map atA = L at *
  generalize (l1.take 10).map qN = T at *
  have ZLE : Hid (∀ p ∈ T.map (· * lby T), Sz 20 p) := fun p hp => by
    obtain ⟨q, hq, rfl⟩ := List.mem_map.1 hp
    have h1 : Sz 9 (lby T) := by
      have hz : ∀ P : List Rat, (∀ p ∈ P, Sz 8 p) → Sz 9 (lby P) := fun P => by
        induction P with
        | nil => exact fun _ => (show Sz 1 (1 : Rat) from ⟨by rw [show ((1 : Rat).num.natAbs) = 1 from rfl]; exact limbs_one_len, limbs_one_len⟩).le (by decide)
        | cons t P ih =>
          intro h
          unfold lby
          split
          · exact ih fun p hp => h p (List.mem_cons_of_mem _ hp)
          · exact (Sz.absQ (h t List.mem_cons_self)).inv
      exact hz T Z8.out
    exact ((Z8.out q hq).mul h1).le (by decide)
  have HPO := Lib.hid (lby_pos T)
  go_enter Try.func12, Try.ntmps12
  go_wp2_with fail
  refine (HRT.out _ (Ext.refl _)).mono ?_
  rintro e w1 ⟨_, rfl, b1, o1⟩
  obtain ⟨a3, k3, rfl, -, hk3⟩ := o1.shape
  have O1 := Lib.hid o1
  clear o1
  go_wp2_with fail
  refine (HRT.out _ b1).mono ?_
  rintro e w2 ⟨v4, rfl, b2, o2⟩
  have HLE := Lib.hid (fleast_any o2 Z8.out (by have := NT.out; omega))
  clear o2
  go_wp2_with fail
  refine HLE.out.mono ?_
  rintro e w3 ⟨v5, rfl, b3, o3⟩
  obtain ⟨a5, k5, hv5, -, -⟩ := o3.shape
  rw [List.length_map] at hv5
  subst hv5
  have O3 := Lib.hid o3
  clear o3 HLE
  have x13 := Ext.trans b2 b3
  go_wp2_with fail
  refine (HRT.out _ (Ext.trans b1 x13)).mono ?_
  rintro e w4 ⟨v6, rfl, b4, o4⟩
  have HUS := Lib.hid (fused_any o4 (by have := NT.out; omega))
  clear o4
  go_wp2_with fail
  refine HUS.out.mono ?_
  rintro e w5 ⟨_, rfl, b5, o5⟩
  obtain ⟨a7, k7, rfl, -, -⟩ := o5.shape
  have O5 := Lib.hid o5
  have HUL := Lib.hid (usd_len T T.length)
  clear o5 HUS
  have x35 := Ext.trans b4 b5
  go_wp2_with fail
  refine awake20.mono ?_
  rintro e w6 ⟨_, rfl, b6, rfl⟩
  have HI1 : Hid (∀ w, Calls Try.prog 44 #[.int .i64 1] w (Gives w fun v' w' => OwnQ 163 0 w' v' 1)) := fun w => by
    have h := rint_any (w := w) (u := 1) (by omega)
    have e : ((1 : Int) : Rat) = 1 := by decide +kernel
    rw [e] at h
    exact h.mono fun _ _ ⟨v, e, b, o⟩ => ⟨v, e, b, o.mono (Nat.zero_le _)⟩
  go_wp2_with fail
  refine (HI1.out _).mono ?_
  rintro e w7 ⟨_, rfl, b7, o7⟩
  obtain ⟨s8, a8, l8, c8, a9, l9, c9, rfl, O7⟩ := o7.op
  clear o7
  obtain ⟨w8, hw8, b8, hC8⟩ : ∃ W, W = w7.alloc (.cells #[.bool s8, .slice a8 l8 c8, .slice a9 l9 c9] 32) ∧ Ext w7 W ∧ Bq 163 32 W w7.heap.size 1 := ⟨_, rfl, Ext.alloc _ _, Bq.new O7.out⟩
  have HW := Lib.hid hw8
  have x17 : Ext w1 w7 := Ext.trans x13 (Ext.trans x35 (Ext.trans b6 b7))
  clear hw8 O7
  go_upto_region 7 with (fail)
  rw [← HW.out]
  clear HW
  go_wp2_with fail
  go_loopw [9, 46] (fun n t wr => ∃ j c : Nat, n = .int .i64 c ∧ t = .int .i64 j ∧ j ≤ T.length ∧ Ext w7 wr ∧ Hid (c = (usd T j).length) ∧ Hid (Bq 163 32 wr w7.heap.size (byAt T j))) (fun _ t _ => T.length - (intOf t).toNat)
  case atStart => exact ⟨0, 0, rfl, rfl, Nat.zero_le _, b8, rfl, hC8⟩
  case round =>
    clear hC8
    obtain ⟨j, c, rfl, rfl, hj, hx, hc, hC⟩ := hrel
    have hnt := NT.out
    by_cases hjl : j < T.length
    · have hd : decide ((j : Int) < (T.length : Int)) = true := decide_eq_true (by omega)
      obtain ⟨bP, oP, ps, pa, pl, pk, pa', pl', pk', hpe, hpo, hpq⟩ := O1.out.oq j hjl
      subst hpe
      have hJ1 : IntKind.i64.wrap (j : Int) = (j : Int) := by rw [IntKind.wrap_i64]; omega
      have hJ2 : (0 : Int) ≤ (j : Int) ∧ (j : Int) < (T.length : Int) := ⟨by omega, by omega⟩
      have x1r := Ext.trans x17 hx
      obtain ⟨u0, u1, u2⟩ := (hpo.ext x1r).c3
      have HCL : Hid (c ≤ j) := by show c ≤ j; rw [hc.out]; exact usd_len T j
      have HSZ : Hid (Sz 8 (gt T j)) := Z8.out _ (gt_mem' hjl)
      have HBZ : Hid (gt T j = 0 → byAt T (j + 1) = byAt T j ∧ (usd T (j + 1)).length = c) := fun h => ⟨byAt_zero h, by rw [show usd T (j + 1) = usd T j from if_pos h]; exact hc.out.symm⟩
      have HBN : Hid (gt T j ≠ 0 → (usd T (j + 1)).length = c + 1 ∧ (c = 0 → byAt T (j + 1) = (absQ (gt T j))⁻¹) ∧ (c ≠ 0 → byAt T (j + 1) = byAt T j) ∧ ∃ hc : c < (usd T T.length).length, (usd T T.length)[c] = (j : Int)) := fun h => by
        have hl := hc.out
        refine ⟨by rw [show usd T (j + 1) = usd T j ++ [(j : Int)] from if_neg h, List.length_append, ← hl]; rfl, fun h0 => byAt_first hjl (List.eq_nil_of_length_eq_zero (by omega)) h, fun h0 => byAt_more (fun h1 => h0 (by rw [hl, h1]; rfl)), ?_⟩
        obtain ⟨h1, h2⟩ := usd_next hjl h
        have h3 : ∀ m, m = (usd T j).length → ∃ hc : m < (usd T T.length).length, (usd T T.length)[m] = (j : Int) := fun m hm => by subst hm; exact ⟨h1, h2⟩
        exact h3 c hl
      obtain ⟨w9, hw9, b9, c9', -, -⟩ := bx1 wr [.bool ps, .slice pa pl pk, .slice pa' pl' pk'] 32
      have HW := Lib.hid hw9
      have C9 := Lib.hid c9'
      have HQ9 := Lib.hid (hpq.ext (Ext.trans x1r b9))
      have HSG : Hid (Calls Try.prog 20 #[.agg #[.bool ps, .slice pa pl pk, .slice pa' pl' pk']] w9 (Gives w9 fun v' _ => v' = .int .i64 (gt T j).num.sign)) := rsign_any HQ9.out.rd
      have HTR : Hid (gt T j = 0 ↔ (gt T j).num.sign = 0) := num_sign_zero.symm
      have x9 := Ext.trans hx b9
      have hC9 := Lib.hid (hC.out.ext b9)
      clear hw9 c9' hpo hpq hC hc
      generalize gt T j = q at *
      go_upto_region 11 with (fail)
      rw [← HW.out]
      clear HW u0 u1 u2
      obtain ⟨g0, g1, g2⟩ := C9.out.c3
      go_wp2_with fail
      refine HSG.out.mono ?_
      rintro e w10 ⟨_, rfl, b10, rfl⟩
      clear g0 g1 g2 HSG
      by_cases hz : q = 0
      · have hs0 : q.num.sign = 0 := HTR.out.1 hz
        obtain ⟨hb1, hb2⟩ := HBZ.out hz
        have HB1 := Lib.hid hb1
        have HB2 := Lib.hid hb2
        rw [hs0]
        clear hz hs0 hb1 hb2
        go_wp2_with fail
        go_roundw
        case rel => exact ⟨j + 1, c, rfl, by go_num, by omega, Ext.trans x9 b10, HB2.out.symm, by rw [HB1.out]; exact hC9.out.ext b10⟩
        case measure => simp [intOf] <;> omega
      · have hs0 : (q.num.sign == 0) = false := beqF fun h => hz (HTR.out.2 h)
        obtain ⟨hl1, hf, hm, hcl, hat⟩ := HBN.out hz
        have HL1 := Lib.hid hl1
        have HF := Lib.hid hf
        have HM := Lib.hid hm
        have HN0 : Hid ((absQ q).num ≠ 0) := fun h => hz (by
          have h2 := absQ_abs q
          rw [h] at h2
          have h3 : q.num = 0 := by simpa using h2.symm
          exact Rat.num_eq_zero.1 h3)
        obtain ⟨bU, oU, rfl⟩ := O5.out.some_atI hcl
        have HU : Hid (∀ w', Ext w5 w' → w'.cell? ⟨bU, oU + c, none⟩ = some (.int .i64 (j : Int))) := fun w' x => by
          have v0 := Ext.cell x (O5.out.int c hcl)
          rwa [hat] at v0
        have hlU : (usd T T.length).length ≤ 10 := by have := HUL.out; omega
        have hC1 : IntKind.i64.wrap (c : Int) = (c : Int) := by rw [IntKind.wrap_i64]; have := HCL.out; omega
        have hC2 : (0 : Int) ≤ (c : Int) ∧ (c : Int) < ((usd T T.length).length : Int) := ⟨by omega, by omega⟩
        have hge : decide (((usd T T.length).length : Int) ≤ (c : Int)) = false := decide_eq_false (by omega)
        have hcj := HCL.out
        clear hl1 hf hm hz HBN HBZ hat hcl
        generalize q.num.sign = sg at *
        have hC10 := Lib.hid (hC9.out.ext b10)
        have HQ10 := Lib.hid (HQ9.out.ext b10)
        have C10 := Lib.hid (C9.out.ext b10)
        by_cases h0 : c = 0
        · have HB1 := Lib.hid (HF.out h0)
          have h0' : ((c : Int) == 0) = true := beqT (by omega)
          clear h0
          obtain ⟨g0, g1, g2⟩ := C10.out.c3
          go_wp2_with fail
          refine (rabs_any HQ10.out.rd).mono ?_
          rintro e w11 ⟨v11, rfl, b11, o11⟩
          have HIN := Lib.hid (rinv_any o11 ((Sz.absQ HSZ.out).le (by decide)) HN0.out)
          obtain ⟨_, _, _, _, _, _, _, -, T2, -⟩ := (hC10.out.ext b11).op
          clear o11 g0 g1 g2
          go_wp2_with fail
          refine HIN.out.mono ?_
          rintro e w12 ⟨_, rfl, b12, o, rfl, o12⟩
          obtain ⟨rs, ra, rl, rk, ra', rl', rk', rfl, O12⟩ := o12.op
          have RT := Lib.hid (T2.out.ext b12)
          obtain ⟨_, _, _, j0, j1, j2, i0, i1, i2⟩ := RT.out.rm.c3
          have x12 := Ext.trans x9 (Ext.trans b10 (Ext.trans b11 b12))
          obtain ⟨w13, hw13, x13', hB13⟩ : ∃ W, W = ((w12.setCell ⟨w7.heap.size, 0, none⟩ (.bool rs)).setCell ⟨w7.heap.size, 1, none⟩ (.slice ra rl rk)).setCell ⟨w7.heap.size, 2, none⟩ (.slice ra' rl' rk') ∧ Ext w7 W ∧ Bq 163 32 W w7.heap.size (absQ q)⁻¹ :=
            ⟨_, rfl, put3_below x12 (Nat.le_refl _) _ _ _, Bq.set RT.out (by decide) (O12.out.mono (Nat.zero_le _))⟩
          have HW := Lib.hid hw13
          have HBQ := Lib.hid hB13
          clear o12 T2 HIN hw13 hB13
          go_upto_region 14 with (fail)
          rw [← HW.out]
          clear HW j0 j1 j2 i0 i1 i2
          have v0 := HU.out _ (Ext.trans (Ext.trans b6 b7) x13')
          go_wp2_with fail
          go_roundw
          case rel => exact ⟨j + 1, c + 1, by go_num, by go_num, by omega, x13', HL1.out.symm, by rw [HB1.out]; exact HBQ.out⟩
          case measure => simp [intOf] <;> omega
        · have h0' : ((c : Int) == 0) = false := beqF (by omega)
          have HB1 := Lib.hid (HM.out h0)
          have v0 := HU.out _ (Ext.trans (Ext.trans b6 b7) (Ext.trans x9 b10))
          clear h0
          go_wp2_with fail
          go_roundw
          case rel => exact ⟨j + 1, c + 1, by go_num, by go_num, by omega, Ext.trans x9 b10, HL1.out.symm, by rw [HB1.out]; exact hC10.out⟩
          case measure => simp [intOf] <;> omega
    · obtain rfl : j = T.length := by omega
      have hd : decide ((T.length : Int) < (T.length : Int)) = false := decide_eq_false (by omega)
      rw [byAt_end] at hC
      have hcU := hc.out
      subst hcU
      obtain ⟨w10, hw10⟩ : ∃ w0 : World, w0 = wr := ⟨_, rfl⟩
      subst hw10
      have x110 : Ext w1 w10 := Ext.trans x17 hx
      have HTL : Hid (T.map (· * lby T) = part T (lby T) T.length) := (part_all _ _).symm
      clear hc
      go_wp2_with fail
      go_loopw [12, 80] (fun o t wr => ∃ j : Nat, t = .int .i64 j ∧ j ≤ T.length ∧ Ext w10 wr ∧ Hid (OwnRow 3 (OwnQp 163) 32 w10.heap.size wr o ((T.map (· * lby T)).take j))) (fun _ t _ => T.length - (intOf t).toNat)
      case atStart => exact ⟨0, rfl, Nat.zero_le _, Ext.alloc _ _, by rw [List.take_zero]; exact OwnRow.nilLit _ (Nat.le_refl _)⟩
      case round =>
        obtain ⟨j, rfl, hj, hx2, hO⟩ := hrel
        have hnt := NT.out
        by_cases hjl : j < T.length
        · have hd : decide ((j : Int) < (T.length : Int)) = true := decide_eq_true (by omega)
          obtain ⟨bP, oP, ps, pa, pl, pk, pa', pl', pk', hpe, hpo, hpq⟩ := O1.out.oq j hjl
          subst hpe
          have hJ1 : IntKind.i64.wrap (j : Int) = (j : Int) := by rw [IntKind.wrap_i64]; omega
          have hJ2 : (0 : Int) ≤ (j : Int) ∧ (j : Int) < (T.length : Int) := ⟨by omega, by omega⟩
          have x1r := Ext.trans x110 hx2
          obtain ⟨u0, u1, u2⟩ := (hpo.ext x1r).c3
          have HSZ : Hid (Sz 8 (gt T j)) := Z8.out _ (gt_mem' hjl)
          have HKL : Hid (((T.map (· * lby T)).take j).length ≤ 10) := by show _ ≤ _; rw [List.length_take, List.length_map]; omega
          have HSN : Hid ((T.map (· * lby T)).take (j + 1) = (T.map (· * lby T)).take j ++ [gt T j * lby T]) := by
            show _ = _
            rw [← List.take_append_getElem (show j < (T.map (· * lby T)).length by rw [List.length_map]; exact hjl), List.getElem_map, gt_lt hjl]
          have HSP : Hid (Sz 20 (lby T) ∧ Sz 20 (gt T j * lby T)) := ⟨by
            have hz : ∀ P : List Rat, (∀ p ∈ P, Sz 8 p) → Sz 9 (lby P) := fun P => by
              induction P with
              | nil => exact fun _ => (show Sz 1 (1 : Rat) from ⟨by rw [show ((1 : Rat).num.natAbs) = 1 from rfl]; exact limbs_one_len, limbs_one_len⟩).le (by decide)
              | cons t P ih =>
                intro h
                unfold lby
                split
                · exact ih fun p hp => h p (List.mem_cons_of_mem _ hp)
                · exact (Sz.absQ (h t List.mem_cons_self)).inv
            exact (hz T Z8.out).le (by decide), ZLE.out _ (List.mem_map.2 ⟨_, gt_mem' hjl, rfl⟩)⟩
          obtain ⟨w11, hw11, b11, c11, -, -⟩ := bx1 wr [.bool ps, .slice pa pl pk, .slice pa' pl' pk'] 32
          have HW := Lib.hid hw11
          have C11 := Lib.hid c11
          have HQ11 := Lib.hid (hpq.ext (Ext.trans x1r b11))
          obtain ⟨s0, e1, n0, g1, e2, n2, g2, T1, -, T3⟩ := (hC.out.ext (Ext.trans hx2 b11)).op
          have hO11 := Lib.hid (hO.out.ext OwnQ.ext b11)
          have x211 := Ext.trans hx2 b11
          clear hw11 c11 hpo hpq hO
          generalize (T.map (· * lby T)).take j = ol at *
          generalize gt T j = q at *
          go_upto_region 22 with (fail)
          rw [← HW.out]
          clear HW u0 u1 u2
          obtain ⟨f0, f1, f2⟩ := C11.out.c3
          obtain ⟨q0, q1, q2⟩ := T1.out.c3
          go_wp2_with fail
          refine (rmul_any HQ11.out.rd T3.out.rd (HSZ.out.le (by decide)) (HSP.out.1.le (by decide))).mono ?_
          rintro e w12 ⟨_, rfl, b12, o12⟩
          obtain ⟨rs, ra, rl, rk, ra', rl', rk', rfl, O12⟩ := o12.op
          have hO12 := Lib.hid (hO11.out.ext OwnQ.ext b12)
          have x212 := Ext.trans x211 b12
          clear o12 f0 f1 f2 q0 q1 q2
          go_wp2_with (at_builtin; refine append_rowL (y := q * lby T) etQL (kdQ (e := 163) (by decide)) (by rfl) _ _ (by rfl) w10.heap.size (by rfl) _ (by rfl) hO12.out rfl (O12.out.mono (Nat.zero_le _)) (Below.size x212) (by have := HKL.out; omega) (by unfold maxLen; have := HKL.out; omega) ?_; intro v9 w9 o9 b9 g9)
          go_roundw
          case rel => exact ⟨j + 1, by go_num, by omega, Below.trans x212 b9, by rw [HSN.out]; exact o9⟩
          case measure => simp [intOf] <;> omega
        · obtain rfl : j = T.length := by omega
          have hd : decide ((T.length : Int) < (T.length : Int)) = false := decide_eq_false (by omega)
          rw [List.take_of_length_le (by rw [List.length_map]; omega)] at hO
          have hOR := Lib.hid hO.out.rd
          obtain ⟨ao, ko, hao, -, -⟩ := hO.out.rd.shape
          rw [List.length_map] at hao
          subst hao
          have HLT : Hid ((T.map (· * lby T)).length ≤ 10) := by show _ ≤ _; rw [List.length_map]; exact NT.out
          have ZT : Hid (∀ p ∈ T, Sz 20 p) := fun p hp => (Z8.out p hp).le (by decide)
          have x7r := Ext.trans hx hx2
          have x5r := Ext.trans (Ext.trans b6 b7) x7r
          have x3r := Ext.trans x35 x5r
          have x1r := Ext.trans x13 x3r
          clear hO hC HTL
          go_wp2_with fail
          refine (nums_in (O3.out.ext OwnQ.ext x3r) ZLE.out (by have := HLT.out; omega)).mono ?_
          rintro e w11 ⟨v11, rfl, b11, o11⟩
          have O11 := Lib.hid o11
          clear o11
          go_wp2_with fail
          refine (nums_in (hOR.out.ext OwnQ.ext b11) ZLE.out (by have := HLT.out; omega)).mono ?_
          rintro e w12 ⟨v12, rfl, b12, o12⟩
          have O12 := Lib.hid o12
          clear o12
          go_wp2_with fail
          refine (r15rats_yes (O11.out.ext OwnP.ext b12) O12.out (fun p hp => (ZLE.out p hp).fit (by decide)) (by have := HLT.out; omega)).mono ?_
          rintro e w13 ⟨_, rfl, b13, rfl⟩
          have xr13 := Ext.trans b11 (Ext.trans b12 b13)
          have b03 := Ext.trans b1 (Ext.trans x1r xr13)
          clear O11 O12 hOR
          go_wp2_with fail
          refine (HAT.out _ b03).mono ?_
          rintro e w14 ⟨_, rfl, b14, o14⟩
          obtain ⟨a14, k14, rfl, -, -⟩ := o14.shape
          have O14 := Lib.hid o14
          have x114 := Ext.trans x1r (Ext.trans xr13 b14)
          clear o14
          go_wp2_with fail
          refine (frefutes_any O14.out (O1.out.ext OwnQ.ext x114) ZL.out ZT.out NL.out).mono ?_
          rintro e w15 ⟨_, rfl, b15, t, er, rfl, hv⟩
          have HV := Lib.hid hv
          have b015 := Ext.trans b03 (Ext.trans b14 b15)
          clear hv
          by_cases he : er = 0
          · have d0 : (er != 0) = false := bneF he
            have HC0 : Hid (chk20 L T = 0) := Classical.byContradiction fun h => h (by rw [← (ref_bad h HV.out).2]; exact he)
            have HTD := Lib.hid (ref_ok HC0.out HV.out).2
            have HLN := Lib.hid (chk20_zero HC0.out).1
            have HFL := Lib.hid (far_least HPO.out HC0.out)
            have HFU := Lib.hid (far_used HC0.out)
            have HIN := Lib.hid (usd_in (T := T) T.length)
            have x115 := Ext.trans x114 b15
            subst he
            clear HV d0
            go_wp2_with fail
            go_loopw [18, 19, 117] (fun so fo t wr => ∃ m : Nat, t = .int .i64 m ∧ m ≤ (usd T T.length).length ∧ Ext w15 wr ∧ Hid (OwnRow 5 OwnA 111 w15.heap.size wr so (((usd T T.length).take m).map fun i => gt L i.toNat)) ∧ Hid (OwnRow 3 (OwnQp 163) 32 w15.heap.size wr fo (((usd T T.length).take m).map fun i => gt T i.toNat))) (fun _ _ t _ => (usd T T.length).length - (intOf t).toNat)
            case atStart => exact ⟨0, rfl, Nat.zero_le _, Ext.trans (Ext.alloc _ _) (Ext.alloc _ _), by rw [List.take_zero]; exact (OwnRow.nilLit _ (Nat.le_refl _)).ext OwnAt.ext (Ext.alloc _ _), by
              have h := OwnRow.nilLit (k := 3) (T := OwnQp 163) (B := w15.heap.size) (w := w15.alloc (.cells #[] 111)) 32 (Below.size (Ext.alloc _ _))
              rw [show (w15.alloc (.cells #[] 111)).heap.size = w15.heap.size + 1 by simp] at h
              exact h⟩
            case round =>
              obtain ⟨m, rfl, hm, hx3, hS, hF⟩ := hrel
              have hul := HUL.out
              have hnt := NT.out
              by_cases hml : m < (usd T T.length).length
              · have hd : decide ((m : Int) < ((usd T T.length).length : Int)) = true := decide_eq_true (by omega)
                obtain ⟨k, hk⟩ : ∃ k : Nat, (usd T T.length)[m] = (k : Int) := ⟨((usd T T.length)[m]).toNat, by have := (HIN.out _ (List.getElem_mem hml)).1; omega⟩
                have hkT : k < T.length := by have := (HIN.out _ (List.getElem_mem hml)).2; rw [hk] at this; omega
                have hkL : k < L.length := by have := HLN.out; omega
                have hM1 : IntKind.i64.wrap (m : Int) = (m : Int) := by rw [IntKind.wrap_i64]; omega
                have hM2 : (0 : Int) ≤ (m : Int) ∧ (m : Int) < ((usd T T.length).length : Int) := ⟨by omega, by omega⟩
                have hK1 : IntKind.i64.wrap (k : Int) = (k : Int) := by rw [IntKind.wrap_i64]; omega
                have hK2 : (0 : Int) ≤ (k : Int) ∧ (k : Int) < (T.length : Int) := ⟨by omega, by omega⟩
                have hK3 : (0 : Int) ≤ (k : Int) ∧ (k : Int) < (L.length : Int) := ⟨by omega, by omega⟩
                have hSN : ∀ (β : Type) (f : Int → β), ((usd T T.length).take (m + 1)).map f = ((usd T T.length).take m).map f ++ [f (k : Int)] := fun β f => by
                  rw [← List.take_append_getElem hml, List.map_append, hk]; rfl
                have HS1 := Lib.hid (hSN _ fun i => gt L i.toNat)
                have HS2 := Lib.hid (hSN _ fun i => gt T i.toNat)
                obtain ⟨bU, oU, hUe⟩ := O5.out.some_atI hml
                subst hUe
                have v0 := Ext.cell (Ext.trans x5r (Ext.trans xr13 (Ext.trans b14 (Ext.trans b15 hx3)))) (O5.out.int m hml)
                rw [hk] at v0
                obtain ⟨bA', oA, xa, xk, xs, xb, xm, xd, xb', xm', xd', hae, hbo, hax⟩ := O14.out.atm k hkL
                subst hae
                obtain ⟨u0, u1, u2, u3, u4⟩ := (hbo.ext (Ext.trans b15 hx3)).c5
                have HAX : Hid (OwnA wr (.agg #[.slice xa L[k].1.1.length xk, .bool xs, .slice xb xm xd, .slice xb' xm' xd', .int .i64 L[k].2]) (gt L k)) := by
                  rw [gt_lt hkL]
                  exact ⟨_, _, _, _, rfl, hax.ext (Ext.trans b15 hx3)⟩
                obtain ⟨bP, oP, ps, pa, pl, pk, pa', pl', pk', hpe, hpo, hpq⟩ := O1.out.oq k hkT
                subst hpe
                have CP := Lib.hid (hpo.ext x115)
                have HPQ := Lib.hid (hpq.ext x115)
                have HKL1 : Hid ((((usd T T.length).take m).map fun i => gt L i.toNat).length ≤ 10) := by show _ ≤ _; rw [List.length_map, List.length_take]; omega
                have HKL2 : Hid ((((usd T T.length).take m).map fun i => gt T i.toNat).length ≤ 10) := by show _ ≤ _; rw [List.length_map, List.length_take]; omega
                change Hid (_ = _ ++ [gt L k]) at HS1
                change Hid (_ = _ ++ [gt T k]) at HS2
                clear hbo hax hpo hpq hk
                generalize L[k].1.1.length = n1 at *
                generalize L[k].2 = op at *
                generalize gt L k = p at *
                generalize gt T k = q at *
                generalize ((usd T T.length).take m).map (fun i => gt L i.toNat) = sl at *
                generalize ((usd T T.length).take m).map (fun i => gt T i.toNat) = fl at *
                go_upto_region 36 with (at_builtin; refine append_rowL (y := p) etAt (kdAt (by decide) (by decide)) (by rfl) _ _ (by rfl) w15.heap.size (by rfl) _ (by rfl) hS.out rfl HAX.out (Below.size hx3) (by have := HKL1.out; omega) (by unfold maxLen; have := HKL1.out; omega) ?_; intro v9 w9 o9 b9 g9)
                obtain ⟨n9, xs9, hown9⟩ := (hS.out.ext OwnAt.ext (Ext.alloc wr (.cells #[.slice xa n1 xk, .bool xs, .slice xb xm xd, .slice xb' xm' xd', .int .i64 op] 111))).own
                have hF9 := Lib.hid ((hF.out.ext OwnQ.ext (Ext.alloc _ _)).grown (fun u a h => OwnQ.grown h hown9 (by decide) g9) hown9 (by decide) g9)
                clear hown9
                have O9 := Lib.hid o9
                have X9 : Ext w15 w9 := Below.trans hx3 b9
                obtain ⟨f0, f1, f2⟩ := (CP.out.ext X9).c3
                clear o9 g9 b9
                go_wp2_with (at_builtin; refine append_rowL (y := q) etQL (kdQ (e := 163) (by decide)) (by rfl) _ _ (by rfl) w15.heap.size (by rfl) _ (by rfl) hF9.out rfl (HPQ.out.ext X9) (Below.size X9) (by have := HKL2.out; omega) (by unfold maxLen; have := HKL2.out; omega) ?_; intro v8 w8' o8 b8' g8)
                have hS8 : Hid (OwnRow 5 OwnA 111 w15.heap.size w8' v9 (sl ++ [p])) := by
                  obtain ⟨n, xs, hown⟩ := (hF9.out.ext OwnQ.ext (Ext.alloc w9 (.cells #[.bool ps, .slice pa pl pk, .slice pa' pl' pk'] 32))).own
                  exact (O9.out.ext OwnAt.ext (Ext.alloc _ _)).grown (fun u a h => (kdAt (by decide) (by decide)).grown h hown g8) hown (by decide) g8
                go_roundw
                case rel => exact ⟨m + 1, by go_num, by omega, Below.trans X9 b8', by rw [HS1.out]; exact hS8.out, by rw [HS2.out]; exact o8⟩
                case measure => simp [intOf] <;> omega
              · obtain rfl : m = (usd T T.length).length := by omega
                have hd : decide (((usd T T.length).length : Int) < ((usd T T.length).length : Int)) = false := decide_eq_false (by omega)
                rw [List.take_length] at hS hF
                have HSS := Lib.hid hS.out.rd
                have HFF := Lib.hid hF.out.rd
                have ZS : Hid (∀ a ∈ (usd T T.length).map fun i => gt L i.toNat, Smx a.1.1 a.1.2) := fun a ha => by
                  obtain ⟨i, hi, rfl⟩ := List.mem_map.1 ha
                  have h1 := HIN.out i hi
                  have h2 : i.toNat < L.length := by have := HLN.out; omega
                  exact ZL.out _ (by show gt L i.toNat ∈ L; rw [gt_lt h2]; exact List.getElem_mem h2)
                have ZF : Hid (∀ p ∈ (usd T T.length).map fun i => gt T i.toNat, Sz 20 p) := fun p hp => by
                  obtain ⟨i, hi, rfl⟩ := List.mem_map.1 hp
                  have h1 := HIN.out i hi
                  exact ZT.out _ (gt_mem' (by omega))
                have ZN : Hid (((usd T T.length).map fun i => gt L i.toNat).length ≤ 10) := by show _ ≤ _; rw [List.length_map]; exact Nat.le_trans hul hnt
                have x1r' := Ext.trans b15 hx3
                have HR1 : Hid (Calls Try.prog 57 #[.slice a14 L.length k14, .slice a5 T.length k5] wr (Gives wr fun v' _ => ∃ t' e, v' = .tuple #[.bool t', .int .i64 e] ∧ RefV L (T.map (· * lby T)) t' e)) := frefutes_any (O14.out.ext OwnAt.ext x1r') (O3.out.ext OwnQ.ext (Ext.trans x3r (Ext.trans xr13 (Ext.trans b14 x1r')))) ZL.out ZLE.out NL.out
                clear hS hF
                go_wp2_with fail
                refine HR1.out.mono ?_
                rintro e w16 ⟨_, rfl, b16, t1, er1, rfl, hv1⟩
                obtain ⟨rfl, ht1⟩ := ref_ok HFL.out.1 hv1
                have HT1 : Hid (t1 = t) := Bool.eq_iff_iff.2 (ht1.trans (HFL.out.2.trans HTD.out.symm))
                clear hv1 ht1
                go_wp2_with fail
                refine (frefutes_any (HSS.out.ext OwnAt.ext b16) (HFF.out.ext OwnQ.ext b16) ZS.out ZF.out ZN.out).mono ?_
                rintro e w17 ⟨_, rfl, b17, t2, er2, rfl, hv2⟩
                obtain ⟨rfl, ht2⟩ := ref_ok HFU.out.1 hv2
                have HT2 : Hid (t2 = t) := Bool.eq_iff_iff.2 (ht2.trans (HFU.out.2.trans HTD.out.symm))
                clear hv2 ht2
                obtain rfl := HT1.out
                obtain rfl := HT2.out
                go_wp2_with fail
                exact hR.out _ _ (Gives.mk (Ext.trans b015 (Ext.trans hx3 (Ext.trans b16 b17))) (by first | rfl | simp))
          · have d0 : (er != 0) = true := bneT he
            clear he HV
            go_wp2_with fail
            exact hR.out _ _ (Gives.mk b015 rfl)
theorem own : ownKnob Try.prog.godebug = none := by kernel_rfl
theorem laidOut : laidOutB Try.prog = true := by kernel_rfl

set_option maxRecDepth 100000 in
theorem contract (H : Type) (enc : TypeId × Value → H) (W : World) (base : Nat) (args : Array Value) (ds gs : List (DataW H)) (before : List MemPlace)
    (hval : ∀ (j : Nat) t v, Try.f12.params[j]? = some t → args[j]? = some v → Value.okWide Try.prog W .any base t v)
    (hW : DataW.Whole enc Try.prog Try.f12.params.toList Rows.farkasLeastSpec.vars false W args.toList ds gs before) (hk : Rows.uptoSmall H (ds ++ gs) = true) :
    Calls Try.prog 12 args W fun e W' => ∃ v, e = .returned v ∧ Rows.farkasLeastSpec.post enc Try.prog Try.f12 false true false false W args v W' := by
  have hW' := hW
  obtain ⟨p, q, hA0, hV, rfl, hfz, hnd⟩ := hW
  have hA : DataW.TrodAll enc Try.prog W 0 (fun _ => true) true Try.f12.params.toList args.toList ds p := hA0
  rw [Try.params12] at hA hval
  obtain ⟨v0, vs0, d0, ds0, p0, q0, hargs, rfl, rfl, h0, r0⟩ := trodAll_cons hA
  obtain ⟨v1, vs1, d1, ds1, p1, q1, rfl, rfl, rfl, h1, r1⟩ := trodAll_cons r0
  obtain ⟨rfl, rfl, rfl⟩ := trodAll_nil r1
  obtain rfl : args = #[v0, v1] := by cases args; simp_all
  obtain ⟨rfl, rfl⟩ := trodVars_none hV
  have hb := bulk_small hk
  simp only [List.append_nil, bulk_cons, bulk_nil] at hb
  have k0 := h0
  have lt0 : ∀ x ∈ p0, x.block < W.heap.size := by obtain ⟨m, hm⟩ := k0; exact DataW.trod_lt m _ _ _ hm
  obtain ⟨l0, rd0, bd0, len0⟩ := open_rowA Try.underlying97 (hval 0 97 v0 rfl rfl) h0
  have k1 := h1
  have lt1 : ∀ x ∈ p1, x.block < W.heap.size := by obtain ⟨m, hm⟩ := k1; exact DataW.trod_lt m _ _ _ hm
  obtain ⟨l1, rd1, bd1, len1⟩ := open_rowN Try.underlying22 (hval 1 22 v1 rfl rfl) h1
  clear hA0
  refine (walk rd0 (fun p hp => by have := bd0 p hp; omega) (by omega) rd1 (fun p hp => by have := bd1 p hp; omega) (by omega)).mono fun e W' ⟨v, he, bel, hv⟩ => ?_
  subst he hv
  exact ⟨_, rfl, _, _, _, [], _, [], hW', trodAll_mk1 (shut_bool Try.underlying4 _), (trodAll_cons_mk (Below.trod laidOut (by kernel_rfl) (of_decide_eq_true (by kernel_rfl)) k0 bel lt0) (trodAll_cons_mk (Below.trod laidOut (by kernel_rfl) (of_decide_eq_true (by kernel_rfl)) k1 bel lt1) trodAll_mk0)), rfl, bel.frame _, fun h => by cases h⟩

set_option maxRecDepth 100000 in
theorem lifted (os : Os) (started : os.Started) (H : Type) (enc : TypeId × Value → H) (F : Stop.Interp) :
    ReturnsInHanded {} Try.checked os 12 .any ((Rows.OpenSpec.upto Rows.farkasLeastSpec).pre6 enc Try.prog Try.f12 Rows.farkasLeastUptoRow.domain false) (((Rows.OpenSpec.upto Rows.farkasLeastSpec).at F).post enc Try.prog Try.f12 false true false false) := by
  refine returnsInHanded_of_cond (C := Try.checked) (s := Rows.OpenSpec.upto Rows.farkasLeastSpec) (k := Rows.uptoSmall) rfl own started (by kernel_rfl) Try.func12
    (OpenSpec.witness (enc := enc) (C := Try.checked) (s := Rows.OpenSpec.upto Rows.farkasLeastSpec) (k := Rows.uptoSmall) rfl false ⟨#[], #[.slice none 0 0, .slice none 0 0], []⟩ 8 (by kernel_rfl) (by kernel_rfl) (by kernel_rfl)
      (x := ([.nil, .nil], [], [])) (by kernel_rfl) rfl (by kernel_rfl)) ?_
  intro W base args ds gs before hval hW _ hk _
  exact contract H enc W base args ds gs before hval hW hk

theorem proved : Rows.FarkasLeastUptoSaid :=
  OpenClaim.holds_of_cond 12 Try.f12 rfl rfl rfl rfl rfl rfl rfl ⟨rfl, rfl, rfl, rfl, rfl⟩ rfl rfl rfl rfl rfl (by kernel_rfl) Try.func12 (by kernel_rfl)
    (of_decide_eq_true (by kernel_rfl)) (by unfold Func.isWrapper; first | (rw [if_pos (by decide +kernel)]; kernel_rfl) | (rw [if_neg (by decide +kernel)]; exact ⟨rfl, rfl⟩))
    (fun os started H enc _ F => lifted os started H enc F)
#print axioms proved

end Go.Proofs.Ytnbbhpihlcglgaa.farkasLeast
