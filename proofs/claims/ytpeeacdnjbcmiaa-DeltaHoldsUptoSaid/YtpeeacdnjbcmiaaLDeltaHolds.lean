/- DeltaHolds: with the number that is chosen all pairs stay in order, and with any greater one some pair does not. Conditions: the arguments hold together at most 1048576 values (the second form, Upto). -/
import Derived.Test.YtpeeacdnjbcmiaaFrameR
import Derived.Test.YtpeeacdnjbcmiaaPAwake07
import Derived.Test.YtpeeacdnjbcmiaaPLists
import Derived.Test.YtpeeacdnjbcmiaaPDelta2
import Derived.Test.YtpeeacdnjbcmiaaPRatSign
import Derived.Test.YtpeeacdnjbcmiaaPHolds
namespace Go.Proofs.Ytpeeacdnjbcmiaa.deltaHolds
open Go.ChangeShapes Go.WideShapes Go.ChangeAt Go.RowKit Go.Att

theorem sz_row {w : World} {v : Value} {l : List (NN × NN)} (hv : RdRow 6 RdNDp w v l) (n : Nat) : ∀ p ∈ (l.take n).map qND2, Sz 8 p.1 ∧ Sz 8 p.2 := by
  intro p hp
  obtain ⟨q, hq, rfl⟩ := List.mem_map.1 hp
  obtain ⟨i, hi, rfl⟩ := List.getElem_of_mem (List.mem_of_mem_take hq)
  obtain ⟨a, c, rfl, -, -⟩ := hv.shape
  obtain ⟨_, _, cs, -, -, hT, -⟩ := hv.at (by decide) i hi
  obtain ⟨_, _, _, _, _, _, -, ⟨_, _, _, h1, h2⟩, ⟨_, _, _, h3, h4⟩⟩ := hT
  exact ⟨qOf_sz h1.2 h2.2, qOf_sz h3.2 h4.2⟩
theorem bro_cons (e : Rat) (z : (Rat × Rat) × (Rat × Rat)) (r : List ((Rat × Rat) × (Rat × Rat))) (b : Bool) : bro e (z :: r) b = bro e r (b || decide (0 < (z.1.1 + z.1.2 * e - (z.2.1 + z.2.2 * e)).num.sign)) := rfl
abbrev AtC (p : Rat × Rat) (e r : Rat) : Prop := ∀ w va vb, RdD w va p.1 p.2 → RdQ w vb e → Calls Try.prog 29 #[va, vb] w (Gives w fun v' w' => OwnQ 148 0 w' v' r)
theorem atC {p : Rat × Rat} {e : Rat} (h : Sz 8 p.1 ∧ Sz 8 p.2) (he : Sz 1000 e) : AtC p e (p.1 + p.2 * e) ∧ Sz 2000 (p.1 + p.2 * e) :=
  ⟨fun _ _ _ h1 h2 => (dat_any h1 h2 (h.1.le (by decide)) (h.2.le (by decide)) (he.le (by decide))).mono fun _ _ ⟨v, e, b, o⟩ => ⟨v, e, b, o.mono (Nat.zero_le _)⟩, (h.1.add (h.2.mul he)).le (by decide)⟩
abbrev CmC (a b : Rat) (s : Int) : Prop := ∀ w va vb, RdQ w va a → RdQ w vb b → Calls Try.prog 46 #[va, vb] w (Gives w fun v' _ => v' = .int .i64 s)
theorem cmC {a b : Rat} (ha : Sz 2000 a) (hb : Sz 2000 b) : CmC a b (a - b).num.sign := fun _ _ _ h1 h2 => rcmp_any h1 h2 (ha.le (by decide)) (hb.le (by decide))
set_option maxHeartbeats 4000000 in
set_option maxRecDepth 100000 in
set_option linter.unusedSimpArgs false in
theorem walk {w : World} {v0 v1 v2 : Value} {l0 l1 : List (NN × NN)} {s2 : Bool} {x2 y2 : List Nat} (hv0 : RdRow 6 RdNDp w v0 l0) (hb0 : ∀ p ∈ l0, bND p ≤ 1048576) (_hn0 : l0.length ≤ 1048576)
    (hv1 : RdRow 6 RdNDp w v1 l1) (hb1 : ∀ p ∈ l1, bND p ≤ 1048576) (_hn1 : l1.length ≤ 1048576)
    (hv2 : RdN w v2 s2 x2 y2) (hx2 : x2.length ≤ 1048576) (hy2 : y2.length ≤ 1048576) :
    Calls Try.prog 8 #[v0, v1, v2] w (Gives w fun v' _ => v' = .bool true) := by
  refine via fun R hR => ?_
  have SA := Lib.hid (sz_row hv0 12)
  have SB := Lib.hid (sz_row hv1 12)
  have SU : Hid (Sz 8 (qOf s2 x2 y2)) := by obtain ⟨_, _, _, h1, h2⟩ := hv2; exact qOf_sz h1.2 h2.2
  have HL : Hid (∀ w, RdRow 6 RdNDp w v0 l0 → RdRow 6 RdNDp w v1 l1 → Calls Try.prog 57 #[v0, v1] w (Gives w fun v' w' => ∃ a b c d, v' = .tuple #[a, b, c, d] ∧ L4 w.heap.size w' a b c d ((l0.take 12).map qND2) ((l1.take 12).map qND2) ((l0.take 12).map qND2) ((l1.take 12).map qND2))) := fun w h0 h1 => lists_any h0 (fun p hp => by
    have := hb0 p hp
    unfold bND bN at this
    exact ⟨⟨by omega, by omega⟩, ⟨by omega, by omega⟩⟩) h1 (fun p hp => by
    have := hb1 p hp
    unfold bND bN at this
    exact ⟨⟨by omega, by omega⟩, ⟨by omega, by omega⟩⟩)
  have HBO : Hid (∀ (w : World) (v : Value), RdN w v s2 x2 y2 → Calls Try.prog 16 #[v] w (Gives w fun v' w' => ∃ o1 o2, v' = .tuple #[o1, o2] ∧ OwnQ 148 w.heap.size w' o1 (qOf s2 x2 y2) ∧ OwnP 4 w.heap.size w' o2 (qOf s2 x2 y2))) := fun w v h => both_any h (by omega) (by omega)
  obtain ⟨a0, c0, rfl, -, -⟩ := hv0.shape
  obtain ⟨a1, c1, rfl, -, -⟩ := hv1.shape
  have HV0 := Lib.hid hv0
  have HV1 := Lib.hid hv1
  have HV2 := Lib.hid hv2
  obtain ⟨t1, t2, rfl, -, -⟩ := hv2
  clear hv0 hv1 hb0 hb1
  generalize (l0.take 12).map qND2 = A at *
  generalize (l1.take 12).map qND2 = B at *
  generalize qOf s2 x2 y2 = u at *
  obtain ⟨w1, hw1, b1, c1, -, -⟩ := bx1 w [.bool s2, t1, t2] 24
  have C1 := Lib.hid c1
  have HW := Lib.hid hw1
  clear hw1 c1
  go_enter Try.func8, Try.ntmps8
  go_upto_region 1 with (fail)
  rw [← HW.out]
  clear HW
  go_wp2_with fail
  refine (HL.out _ (HV0.out.ext RdNDp.ext b1) (HV1.out.ext RdNDp.ext b1)).mono ?_
  rintro e w2 ⟨_, rfl, b2, va, vb, vc, vd, rfl, h4⟩
  have RA := Lib.hid h4.ha.rd
  have RB := Lib.hid h4.hb.rd
  obtain ⟨a2, c2, rfl, hla2, hma2⟩ := RA.out.shape
  unfold maxLen at hma2
  obtain ⟨a3, c3, rfl, -, -⟩ := RB.out.shape
  obtain ⟨_, _, rfl, -, -⟩ := h4.hc.rd.shape
  obtain ⟨_, _, rfl, -, -⟩ := h4.hd.rd.shape
  clear h4 HL HV0 HV1
  go_wp2_with fail
  refine (choose_any RA.out RB.out SA.out SB.out).mono ?_
  rintro e w3 ⟨v3, rfl, b3, h2⟩
  cases hch : cho A B with
  | none =>
    rw [hch] at h2
    clear hch
    unfold ChR at h2
    subst h2
    obtain ⟨w4, hw4, b4, -, -, -⟩ := bx1 w3 [.bool false, .slice none 0 0, .slice none 0 0] 28
    have HW := Lib.hid hw4
    clear hw4
    go_upto_region 3 with (fail)
    rw [← HW.out]
    clear HW
    go_wp2_with fail
    refine awake07.mono ?_
    rintro e w5 ⟨_, rfl, b5, rfl⟩
    go_wp2_with fail
    exact hR.out _ _ (Gives.mk (Ext.trans b1 (Ext.trans b2 (Ext.trans b3 (Ext.trans b4 b5)))) rfl)
  | some m =>
    rw [hch] at h2
    unfold ChR at h2
    obtain ⟨o, rfl, hO, hS⟩ := h2
    obtain ⟨z0, d1, n1, e1, d2, n2, e2, rfl, O2⟩ := hO.op
    clear hO
    have RM := Lib.hid O2.out.rd
    have SM := Lib.hid hS
    clear hS O2
    have hlen : A.length = B.length := by
      unfold cho at hch
      split at hch
      · assumption
      · cases hch
    have hcz : chz (A.zip B) 1 = some m := by
      unfold cho at hch
      rwa [if_pos hlen] at hch
    clear hch
    have HCH := Lib.hid (chz_holds _ _ _ hcz (by decide))
    have HCZ := Lib.hid hcz
    have HHF := Lib.hid (half_pos HCH.out.1)
    have HMP : Hid (decide (0 < m.num.sign) = true) := decide_eq_true (sign_pos HCH.out.1)
    have SHF : Hid (Sz 6 (((1 : Int) : Rat) / ((2 : Int) : Rat))) := by
      show Sz _ _
      rw [Rat.div_def]
      exact ((Sz.int 1 (by omega)).mul (Sz.int 2 (by omega)).inv).le (by decide)
    have HFR : Hid (∀ w, Calls Try.prog 60 #[.int .i64 1, .int .i64 2] w (Gives w fun v' w' => ∃ o, v' = .tuple #[o, .bool true] ∧ OwnQ 148 w.heap.size w' o (((1 : Int) : Rat) / ((2 : Int) : Rat)))) := fun w => rfrac_any (by omega) (by omega) (by decide)
    generalize ((1 : Int) : Rat) / ((2 : Int) : Rat) = hf at *
    have h1 : ((A.length : Int) != (B.length : Int)) = false := by rw [hlen]; exact bne_self_eq_false _
    have HLEN := Lib.hid hlen
    clear hlen hcz
    obtain ⟨w4, hw4, b4, c4, -, -⟩ := bx1 w3 [.bool z0, .slice d1 n1 e1, .slice d2 n2 e2] 28
    have HW := Lib.hid hw4
    have C4 := Lib.hid c4
    clear hw4 c4
    go_upto_region 3 with (fail)
    rw [← HW.out]
    clear HW
    go_wp2_with fail
    refine (HFR.out _).mono ?_
    rintro e w5 ⟨_, rfl, b5, o, rfl, hO⟩
    obtain ⟨z1, d3, n3, e3, d4, n4, e4, rfl, O5⟩ := hO.op
    clear hO
    have RF := Lib.hid O5.out.rd
    clear O5
    obtain ⟨w6, hw6, b6, c6, -, -⟩ := bx1 w5 [.bool z1, .slice d3 n3 e3, .slice d4 n4 e4] 28
    have HW := Lib.hid hw6
    have C6 := Lib.hid c6
    clear hw6 c6
    go_upto_region 8 with (fail)
    rw [← HW.out]
    clear HW h1
    obtain ⟨k0, k1, k2⟩ := (C1.out.ext (Ext.trans b2 (Ext.trans b3 (Ext.trans b4 (Ext.trans b5 b6))))).c3
    go_wp2_with fail
    clear k0 k1 k2
    refine (HBO.out _ _ (HV2.out.ext (Ext.trans b1 (Ext.trans b2 (Ext.trans b3 (Ext.trans b4 (Ext.trans b5 b6))))))).mono ?_
    rintro e w7 ⟨_, rfl, b7, o1, o2, rfl, hO, hP⟩
    obtain ⟨z2, d5, n5, e5, d6, n6, e6, rfl, O7⟩ := hO.op
    obtain ⟨z3, d7, n7, e7, d8, n8, e8, rfl, P7⟩ := hP.op
    clear hO hP P7
    have RU := Lib.hid O7.out.rd
    clear O7
    obtain ⟨w8, hw8, b8, c8, -, -, -, -⟩ := bx2 w7 [.bool z2, .slice d5 n5 e5, .slice d6 n6 e6] [.bool z3, .slice d7 n7 e7, .slice d8 n8 e8] 28 33
    have HW := Lib.hid hw8
    have C8 := Lib.hid c8
    clear hw8 c8
    go_upto_region 9 with (fail)
    rw [← HW.out]
    clear HW
    have D4 := Lib.hid (C4.out.ext (Ext.trans b5 (Ext.trans b6 (Ext.trans b7 b8))))
    have SZC : Hid (w3.heap.size < w8.heap.size) := World.block_lt_of_cell? _ _ D4.out.c3.1
    have SZD : Hid (w7.heap.size < w8.heap.size) := World.block_lt_of_cell? _ _ C8.out.c3.1
    have HAB : Hid (∀ w v, RdQ w v u → Calls Try.prog 61 #[v] w (Gives w fun v' w' => RdQ w' v' (absQ u))) := fun w v h => rabs_any h
    have SG : Hid (Sz 60 (m + absQ u)) := (SM.out.add SU.out.absQ).le (by decide)
    have HAD : Hid (∀ w va vb, RdQ w va m → RdQ w vb (absQ u) → Calls Try.prog 33 #[va, vb] w (Gives w fun v' w' => OwnQ 148 0 w' v' (m + absQ u))) := fun w va vb h1 h2 => (radd_any h1 h2 (SM.out.le (by decide)) (SU.out.absQ.le (by decide))).mono fun _ _ ⟨v, e, b, o⟩ => ⟨v, e, b, o.mono (Nat.zero_le _)⟩
    have HBE : Hid (∀ b : Bool, (0 < (m + absQ u - 1).num.sign ∨ u.num.sign = 0 → b = true) → bro (m + absQ u) (A.zip B) b = true) := fun b h => bro_end HCZ.out h
    have RM8 := Lib.hid (RM.out.ext (Ext.trans b4 (Ext.trans b5 (Ext.trans b6 (Ext.trans b7 b8)))))
    have RU8 := Lib.hid (RU.out.ext b8)
    generalize absQ u = au at *
    generalize m + au = bg at *
    go_cut [17] (fun s17 wx => ∃ E, s17 = .pointer (some ⟨E, 0, none⟩) ∧ Ext w8 wx ∧ Hid (Bq 148 28 wx E bg))
    case first =>
      as_aux_lemma =>
        refine wp_region_noPanic ?_
        refine wp_region_held_drew (S := fun w' => (w'.cell? ⟨w3.heap.size, 0, none⟩ = some (.bool z0) ∧ w'.cell? ⟨w3.heap.size, 1, none⟩ = some (.slice d1 n1 e1) ∧ w'.cell? ⟨w3.heap.size, 2, none⟩ = some (.slice d2 n2 e2)) ∧ (w'.cell? ⟨w7.heap.size, 0, none⟩ = some (.bool z2) ∧ w'.cell? ⟨w7.heap.size, 1, none⟩ = some (.slice d5 n5 e5) ∧ w'.cell? ⟨w7.heap.size, 2, none⟩ = some (.slice d6 n6 e6))) (by kernel_rfl) (⟨(D4.out.ext (drew_ext w8)).c3, (C8.out.ext (drew_ext w8)).c3⟩) (fun hHeld => ?_)
        refine wpAnyH_take (i := 0) (v := ?_) rfl (by kernel_rfl) (by kernel_rfl) (by kernel_rfl) (fun _ _ _ h => h) (Or.inl ⟨by rfl, fun w0 hSw => ?_⟩) hHeld ?_
        rotate_left
        · (try dsimp only at hSw)
          go_simp
          try with_reducible rfl
        simp only [Act.put, List.getElem_toArray, List.getElem_cons_succ, List.getElem_cons_zero, List.setIfInBounds_toArray, List.set_cons_zero, List.set_cons_succ]
        refine wpAnyH_take (i := 1) (v := ?_) rfl (by kernel_rfl) (by kernel_rfl) (by kernel_rfl) (fun _ _ _ h => h) (Or.inl ⟨by rfl, fun w0 hSw => ?_⟩) hHeld ?_
        rotate_left
        · (try dsimp only at hSw)
          go_simp
          try with_reducible rfl
        simp only [Act.put, List.getElem_toArray, List.getElem_cons_succ, List.getElem_cons_zero, List.setIfInBounds_toArray, List.set_cons_zero, List.set_cons_succ]
        refine anyH_cap fun O Q9 AA hO hQ hA => ?_
        obtain ⟨SS, hSS⟩ : ∃ SS : World → Prop, Hid (SS = fun w' => (w'.cell? ⟨w3.heap.size, 0, none⟩ = some (.bool z0) ∧ w'.cell? ⟨w3.heap.size, 1, none⟩ = some (.slice d1 n1 e1) ∧ w'.cell? ⟨w3.heap.size, 2, none⟩ = some (.slice d2 n2 e2)) ∧ (w'.cell? ⟨w7.heap.size, 0, none⟩ = some (.bool z2) ∧ w'.cell? ⟨w7.heap.size, 1, none⟩ = some (.slice d5 n5 e5) ∧ w'.cell? ⟨w7.heap.size, 2, none⟩ = some (.slice d6 n6 e6))) := ⟨_, rfl⟩
        have KP : Hid (∀ wv, Ext w8 wv → SS wv) := fun wv XE => by rw [hSS.out]; exact ⟨(D4.out.ext XE).c3, (C8.out.ext XE).c3⟩
        have L2_4 : ∀ (wv : World) (v2 v3 : Value) (B4 : Nat), Hid (Ext w8 wv) → Hid (RdQ wv v2 au) → Hid (OwnQ 148 0 wv v3 bg) → Hid (Rt wv B4 3 28) → Hid (w8.heap.size ≤ B4) → wpAnyH Try.prog .any O Q9 SS 1 #[true, true, true, true, true, false] (((AA.put (some 53) v2).put (some 54) v3).put (some 17) (.pointer (some ⟨B4, 0, none⟩))) wv := by
          intro wv v2 v3 B4 hX p2 p3 r4 s4
          have hO1 := hO.out
          have hQ1 := hQ.out
          have hA1 := hA.out
          subst hO1
          subst hQ1
          subst hA1
          have XE := hX.out
          have hS1 := hSS.out
          subst hS1
          have hHeld : (fun w' => (w'.cell? ⟨w3.heap.size, 0, none⟩ = some (.bool z0) ∧ w'.cell? ⟨w3.heap.size, 1, none⟩ = some (.slice d1 n1 e1) ∧ w'.cell? ⟨w3.heap.size, 2, none⟩ = some (.slice d2 n2 e2)) ∧ (w'.cell? ⟨w7.heap.size, 0, none⟩ = some (.bool z2) ∧ w'.cell? ⟨w7.heap.size, 1, none⟩ = some (.slice d5 n5 e5) ∧ w'.cell? ⟨w7.heap.size, 2, none⟩ = some (.slice d6 n6 e6))) wv := ⟨(D4.out.ext XE).c3, (C8.out.ext XE).c3⟩
          try simp only [Act.put, List.getElem_toArray, List.getElem_cons_succ, List.getElem_cons_zero, List.setIfInBounds_toArray, List.set_cons_zero, List.set_cons_succ]
          have k0_4 : w3.heap.size ≠ B4 := by have h1 := s4.out; have hz0 := SZC.out; have hz1 := SZD.out; omega
          have k1_4 : w7.heap.size ≠ B4 := by have h1 := s4.out; have hz0 := SZC.out; have hz1 := SZD.out; omega
          obtain ⟨_, _, _, i4_0, i4_1, i4_2, f4_0, f4_1, f4_2⟩ := r4.out.rm.c3
          obtain ⟨_, _, _, _, _, _, _, rfl, OO⟩ := p3.out.op
          refine wpAnyH_ready (rs := [5]) (by kernel_rfl) (by simp) ?_
          refine AllReadyH.cons (o := _) rfl (fun K hK => ?_) AllReadyH.nil
          go_simp
          refine hK.out _ _ (⟨((D4.out.ext XE).putL k0_4 0 [_, _, _]).c3, ((C8.out.ext XE).putL k1_4 0 [_, _, _]).c3⟩) (fun hHeld => ?_)
          clear hK K
          try simp only [Act.put, List.getElem_toArray, List.getElem_cons_succ, List.getElem_cons_zero, List.setIfInBounds_toArray, List.set_cons_zero, List.set_cons_succ]
          refine wpAnyH_done (by kernel_rfl) ?_ _
          refine NoPanic.normal ?_
          go_wp2_with fail
          go_meet
          exact ⟨B4, rfl, put3_below hX.out s4.out _ _ _, Bq.set r4.out (by decide) OO.out⟩
        have L1_4 : ∀ (wv : World) (v2 : Value) (B4 : Nat), Hid (Ext w8 wv) → Hid (RdQ wv v2 au) → Hid (Rt wv B4 3 28) → Hid (w8.heap.size ≤ B4) → wpAnyH Try.prog .any O Q9 SS 2 #[true, true, true, false, true, false] ((AA.put (some 53) v2).put (some 17) (.pointer (some ⟨B4, 0, none⟩))) wv := by
          intro wv v2 B4 hX p2 r4 s4
          have hO1 := hO.out
          have hQ1 := hQ.out
          have hA1 := hA.out
          subst hO1
          subst hQ1
          subst hA1
          have XE := hX.out
          try simp only [Act.put, List.getElem_toArray, List.getElem_cons_succ, List.getElem_cons_zero, List.setIfInBounds_toArray, List.set_cons_zero, List.set_cons_succ]
          refine wpAnyH_ready (rs := [3]) (by kernel_rfl) (by simp) ?_
          refine AllReadyH.cons (o := _) rfl (fun K hK => ?_) AllReadyH.nil
          go_simp
          go_at_call 33
          refine (HAD.out _ _ _ (RM8.out.ext XE) p2.out).mono ?_
          rintro e wn ⟨vn, rfl, bn, on⟩
          go_wp2_with fail
          refine hK.out _ _ (KP.out _ (Ext.trans XE bn)) (fun _ => ?_)
          clear hK K
          try simp only [Act.put, List.getElem_toArray, List.getElem_cons_succ, List.getElem_cons_zero, List.setIfInBounds_toArray, List.set_cons_zero, List.set_cons_succ]
          exact wpAnyH_at (L2_4 wn v2 vn B4 (Ext.trans XE bn) (p2.out.ext bn) (on) (r4.out.ext bn) s4) (by kernel_rfl) (by kernel_rfl) (by kernel_rfl)
        have L2_ : ∀ (wv : World) (v2 v3 : Value), Hid (Ext w8 wv) → Hid (RdQ wv v2 au) → Hid (OwnQ 148 0 wv v3 bg) → wpAnyH Try.prog .any O Q9 SS 2 #[true, true, true, true, false, false] ((AA.put (some 53) v2).put (some 54) v3) wv := by
          intro wv v2 v3 hX p2 p3
          have hO1 := hO.out
          have hQ1 := hQ.out
          have hA1 := hA.out
          subst hO1
          subst hQ1
          subst hA1
          have XE := hX.out
          try simp only [Act.put, List.getElem_toArray, List.getElem_cons_succ, List.getElem_cons_zero, List.setIfInBounds_toArray, List.set_cons_zero, List.set_cons_succ]
          refine wpAnyH_ready (rs := [4]) (by kernel_rfl) (by simp) ?_
          refine AllReadyH.cons (o := _) rfl (fun K hK => ?_) AllReadyH.nil
          go_simp
          refine hK.out _ _ (KP.out _ (Ext.trans XE (Ext.alloc _ _))) (fun _ => ?_)
          clear hK K
          try simp only [Act.put, List.getElem_toArray, List.getElem_cons_succ, List.getElem_cons_zero, List.setIfInBounds_toArray, List.set_cons_zero, List.set_cons_succ]
          exact wpAnyH_at (L2_4 _ v2 v3 wv.heap.size (Ext.trans XE (Ext.alloc wv (.cells [.bool false, .slice none 0 0, .slice none 0 0].toArray 28))) (p2.out.ext (Ext.alloc wv (.cells [.bool false, .slice none 0 0, .slice none 0 0].toArray 28))) (p3.out.ext (Ext.alloc wv (.cells [.bool false, .slice none 0 0, .slice none 0 0].toArray 28))) (Rt.new wv [.bool false, .slice none 0 0, .slice none 0 0] 28) (Below.size XE)) (by kernel_rfl) (by kernel_rfl) (by kernel_rfl)
        have L0_4 : ∀ (wv : World) (B4 : Nat), Hid (Ext w8 wv) → Hid (Rt wv B4 3 28) → Hid (w8.heap.size ≤ B4) → wpAnyH Try.prog .any O Q9 SS 3 #[true, true, false, false, true, false] (AA.put (some 17) (.pointer (some ⟨B4, 0, none⟩))) wv := by
          intro wv B4 hX r4 s4
          have hO1 := hO.out
          have hQ1 := hQ.out
          have hA1 := hA.out
          subst hO1
          subst hQ1
          subst hA1
          have XE := hX.out
          try simp only [Act.put, List.getElem_toArray, List.getElem_cons_succ, List.getElem_cons_zero, List.setIfInBounds_toArray, List.set_cons_zero, List.set_cons_succ]
          refine wpAnyH_ready (rs := [2]) (by kernel_rfl) (by simp) ?_
          refine AllReadyH.cons (o := _) rfl (fun K hK => ?_) AllReadyH.nil
          go_simp
          go_at_call 61
          refine (HAB.out _ _ (RU8.out.ext XE)).mono ?_
          rintro e wn ⟨vn, rfl, bn, on⟩
          go_wp2_with fail
          refine hK.out _ _ (KP.out _ (Ext.trans XE bn)) (fun _ => ?_)
          clear hK K
          try simp only [Act.put, List.getElem_toArray, List.getElem_cons_succ, List.getElem_cons_zero, List.setIfInBounds_toArray, List.set_cons_zero, List.set_cons_succ]
          exact wpAnyH_at (L1_4 wn vn B4 (Ext.trans XE bn) (on) (r4.out.ext bn) s4) (by kernel_rfl) (by kernel_rfl) (by kernel_rfl)
        have L1_ : ∀ (wv : World) (v2 : Value), Hid (Ext w8 wv) → Hid (RdQ wv v2 au) → wpAnyH Try.prog .any O Q9 SS 3 #[true, true, true, false, false, false] (AA.put (some 53) v2) wv := by
          intro wv v2 hX p2
          have hO1 := hO.out
          have hQ1 := hQ.out
          have hA1 := hA.out
          subst hO1
          subst hQ1
          subst hA1
          have XE := hX.out
          try simp only [Act.put, List.getElem_toArray, List.getElem_cons_succ, List.getElem_cons_zero, List.setIfInBounds_toArray, List.set_cons_zero, List.set_cons_succ]
          refine wpAnyH_ready (rs := [3, 4]) (by kernel_rfl) (by simp) ?_
          refine AllReadyH.cons (o := _) rfl (fun K hK => ?_) (AllReadyH.cons (o := _) rfl (fun K hK => ?_) AllReadyH.nil)
          · skip
            go_simp
            go_at_call 33
            refine (HAD.out _ _ _ (RM8.out.ext XE) p2.out).mono ?_
            rintro e wn ⟨vn, rfl, bn, on⟩
            go_wp2_with fail
            refine hK.out _ _ (KP.out _ (Ext.trans XE bn)) (fun _ => ?_)
            clear hK K
            try simp only [Act.put, List.getElem_toArray, List.getElem_cons_succ, List.getElem_cons_zero, List.setIfInBounds_toArray, List.set_cons_zero, List.set_cons_succ]
            exact wpAnyH_at (L2_ wn v2 vn (Ext.trans XE bn) (p2.out.ext bn) (on)) (by kernel_rfl) (by kernel_rfl) (by kernel_rfl)
          · skip
            go_simp
            refine hK.out _ _ (KP.out _ (Ext.trans XE (Ext.alloc _ _))) (fun _ => ?_)
            clear hK K
            try simp only [Act.put, List.getElem_toArray, List.getElem_cons_succ, List.getElem_cons_zero, List.setIfInBounds_toArray, List.set_cons_zero, List.set_cons_succ]
            exact wpAnyH_at (L1_4 _ v2 wv.heap.size (Ext.trans XE (Ext.alloc wv (.cells [.bool false, .slice none 0 0, .slice none 0 0].toArray 28))) (p2.out.ext (Ext.alloc wv (.cells [.bool false, .slice none 0 0, .slice none 0 0].toArray 28))) (Rt.new wv [.bool false, .slice none 0 0, .slice none 0 0] 28) (Below.size XE)) (by kernel_rfl) (by kernel_rfl) (by kernel_rfl)
        have L0_ : ∀ (wv : World), Hid (Ext w8 wv) → wpAnyH Try.prog .any O Q9 SS 4 #[true, true, false, false, false, false] AA wv := by
          intro wv hX
          have hO1 := hO.out
          have hQ1 := hQ.out
          have hA1 := hA.out
          subst hO1
          subst hQ1
          subst hA1
          have XE := hX.out
          try simp only [Act.put, List.getElem_toArray, List.getElem_cons_succ, List.getElem_cons_zero, List.setIfInBounds_toArray, List.set_cons_zero, List.set_cons_succ]
          refine wpAnyH_ready (rs := [2, 4]) (by kernel_rfl) (by simp) ?_
          refine AllReadyH.cons (o := _) rfl (fun K hK => ?_) (AllReadyH.cons (o := _) rfl (fun K hK => ?_) AllReadyH.nil)
          · skip
            go_simp
            go_at_call 61
            refine (HAB.out _ _ (RU8.out.ext XE)).mono ?_
            rintro e wn ⟨vn, rfl, bn, on⟩
            go_wp2_with fail
            refine hK.out _ _ (KP.out _ (Ext.trans XE bn)) (fun _ => ?_)
            clear hK K
            try simp only [Act.put, List.getElem_toArray, List.getElem_cons_succ, List.getElem_cons_zero, List.setIfInBounds_toArray, List.set_cons_zero, List.set_cons_succ]
            exact wpAnyH_at (L1_ wn vn (Ext.trans XE bn) (on)) (by kernel_rfl) (by kernel_rfl) (by kernel_rfl)
          · skip
            go_simp
            refine hK.out _ _ (KP.out _ (Ext.trans XE (Ext.alloc _ _))) (fun _ => ?_)
            clear hK K
            try simp only [Act.put, List.getElem_toArray, List.getElem_cons_succ, List.getElem_cons_zero, List.setIfInBounds_toArray, List.set_cons_zero, List.set_cons_succ]
            exact wpAnyH_at (L0_4 _ wv.heap.size (Ext.trans XE (Ext.alloc wv (.cells [.bool false, .slice none 0 0, .slice none 0 0].toArray 28))) (Rt.new wv [.bool false, .slice none 0 0, .slice none 0 0] 28) (Below.size XE)) (by kernel_rfl) (by kernel_rfl) (by kernel_rfl)
        have hO1 := hO.out
        have hQ1 := hQ.out
        have hA1 := hA.out
        subst hO1
        subst hQ1
        subst hA1
        have hS1 := hSS.out
        subst hS1
        exact wpAnyH_at (L0_ w8.drew (drew_ext w8)) (by kernel_rfl) (by kernel_rfl) (by kernel_rfl)
    case rest =>
      as_aux_lemma =>
        obtain ⟨E, rfl, b9, HE⟩ := hcut
        generalize wc = w9 at *
        obtain ⟨z4, d9, n9, e9, d10, n10, e10, T1, T2, T3⟩ := HE.out.op
        clear HE T2
        have RG := Lib.hid T3.out.rd
        clear T3
        have D8 := Lib.hid (C8.out.ext b9)
        have HI1 : Hid (∀ w, Calls Try.prog 62 #[.int .i64 1] w (Gives w fun v' w' => OwnQ 148 w.heap.size w' v' ((1 : Int) : Rat))) := fun w => rint_any (u := 1) (by omega)
        have HC1 : Hid (CmC bg ((1 : Int) : Rat) (bg - 1).num.sign) := cmC (SG.out.le (by decide)) ((Sz.int 1 (by omega)).le (by decide))
        have HSU : Hid (∀ w v, RdQ w v u → Calls Try.prog 34 #[v] w (Gives w fun v' _ => v' = .int .i64 u.num.sign)) := fun w v h => rsign_any h
        have RU9 := Lib.hid (RU8.out.ext b9)
        generalize (bg - 1).num.sign = tb at *
        generalize u.num.sign = us at *
        go_upto_region 10 with (fail)
        go_cut [18] (fun s18 wx => ∃ b0 : Bool, s18 = .bool b0 ∧ Ext w9 wx ∧ Hid (0 < tb ∨ us = 0 → b0 = true))
        case first =>
          as_aux_lemma =>
            by_cases ht : 0 < tb
            · have HD := Lib.hid (decide_eq_true ht)
              clear ht
              have b10 := drew_ext w9
              have XE := b10
              refine wp_region_noPanic ?_
              refine wp_region_held_drew (S := fun w' => (w'.cell? ⟨E, 0, none⟩ = some (.bool z4) ∧ w'.cell? ⟨E, 1, none⟩ = some (.slice d9 n9 e9) ∧ w'.cell? ⟨E, 2, none⟩ = some (.slice d10 n10 e10)) ∧ (w'.cell? ⟨w7.heap.size, 0, none⟩ = some (.bool z2) ∧ w'.cell? ⟨w7.heap.size, 1, none⟩ = some (.slice d5 n5 e5) ∧ w'.cell? ⟨w7.heap.size, 2, none⟩ = some (.slice d6 n6 e6))) (by kernel_rfl) (⟨(T1.out.ext XE).c3, (D8.out.ext XE).c3⟩) (fun hHeld => ?_)
              refine wpAnyH_take (i := 0) (v := ?_) rfl (by kernel_rfl) (by kernel_rfl) (by kernel_rfl) (fun _ _ _ h => h) (Or.inl ⟨by rfl, fun w0 hSw => ?_⟩) hHeld ?_
              rotate_left
              · (try dsimp only at hSw)
                go_simp
                try with_reducible rfl
              simp only [Act.put, List.getElem_toArray, List.getElem_cons_succ, List.getElem_cons_zero, List.setIfInBounds_toArray, List.set_cons_zero, List.set_cons_succ]
              refine wpAnyH_ready (rs := [1]) (by kernel_rfl) (by simp) ?_
              refine AllReadyH.cons (o := _) rfl (fun K hK => ?_) AllReadyH.nil
              go_simp
              go_at_call 62; refine (HI1.out _).mono ?_; rintro e w11 ⟨v11, rfl, b11, o11⟩; have O11 := Lib.hid o11; clear o11; (first | have XE := Ext.trans XE b11 | have XE := Ext.trans (Ext.trans XE (Ext.alloc _ _)) b11)
              go_wp2_with fail
              refine hK.out _ _ (⟨(T1.out.ext XE).c3, (D8.out.ext XE).c3⟩) (fun hHeld => ?_)
              clear hK K
              try simp only [Act.put, List.getElem_toArray, List.getElem_cons_succ, List.getElem_cons_zero, List.setIfInBounds_toArray, List.set_cons_zero, List.set_cons_succ]
              refine wpAnyH_ready (rs := [2]) (by kernel_rfl) (by simp) ?_
              refine AllReadyH.cons (o := _) rfl (fun K hK => ?_) AllReadyH.nil
              go_simp
              go_at_call 46; refine (HC1.out _ _ _ (RG.out.ext XE) O11.out.rd).mono ?_; rintro e w12 ⟨_, rfl, b12, rfl⟩; (first | have XE := Ext.trans XE b12 | have XE := Ext.trans (Ext.trans XE (Ext.alloc _ _)) b12)
              go_wp2_with fail
              refine hK.out _ _ (⟨(T1.out.ext XE).c3, (D8.out.ext XE).c3⟩) (fun hHeld => ?_)
              clear hK K
              try simp only [Act.put, List.getElem_toArray, List.getElem_cons_succ, List.getElem_cons_zero, List.setIfInBounds_toArray, List.set_cons_zero, List.set_cons_succ]
              refine wpAnyH_take (i := 3) (v := ?_) rfl (by kernel_rfl) (by kernel_rfl) (by kernel_rfl) (fun _ _ _ h => h) (Or.inl ⟨by rfl, fun w0 hSw => ?_⟩) hHeld ?_
              rotate_left
              · (try dsimp only at hSw)
                go_simp
                try with_reducible rfl
              simp only [Act.put, List.getElem_toArray, List.getElem_cons_succ, List.getElem_cons_zero, List.setIfInBounds_toArray, List.set_cons_zero, List.set_cons_succ]
              rw [HD.out]
              refine wpAnyH_take (i := 4) (v := ?_) rfl (by kernel_rfl) (by kernel_rfl) (by kernel_rfl) (fun _ _ _ h => h) (Or.inl ⟨by rfl, fun w0 hSw => ?_⟩) hHeld ?_
              rotate_left
              · (try dsimp only at hSw)
                go_simp
                try with_reducible rfl
              simp only [Act.put, List.getElem_toArray, List.getElem_cons_succ, List.getElem_cons_zero, List.setIfInBounds_toArray, List.set_cons_zero, List.set_cons_succ]
              refine wpAnyH_take (i := 5) rfl (by kernel_rfl) (by kernel_rfl) (by kernel_rfl) (fun _ _ _ h => h) (Or.inr ⟨by rfl, rfl⟩) hHeld ?_
              simp only [Act.put, List.getElem_toArray, List.getElem_cons_succ, List.getElem_cons_zero, List.setIfInBounds_toArray, List.set_cons_zero, List.set_cons_succ]
              refine wpAnyH_take (i := 6) rfl (by kernel_rfl) (by kernel_rfl) (by kernel_rfl) (fun _ _ _ h => h) (Or.inr ⟨by rfl, rfl⟩) hHeld ?_
              simp only [Act.put, List.getElem_toArray, List.getElem_cons_succ, List.getElem_cons_zero, List.setIfInBounds_toArray, List.set_cons_zero, List.set_cons_succ]
              refine wpAnyH_take (i := 7) rfl (by kernel_rfl) (by kernel_rfl) (by kernel_rfl) (fun _ _ _ h => h) (Or.inr ⟨by rfl, rfl⟩) hHeld ?_
              simp only [Act.put, List.getElem_toArray, List.getElem_cons_succ, List.getElem_cons_zero, List.setIfInBounds_toArray, List.set_cons_zero, List.set_cons_succ]
              refine wpAnyH_take (i := 8) (v := ?_) rfl (by kernel_rfl) (by kernel_rfl) (by kernel_rfl) (fun _ _ _ h => h) (Or.inl ⟨by rfl, fun w0 hSw => ?_⟩) hHeld ?_
              rotate_left
              · (try dsimp only at hSw)
                go_simp
                try with_reducible rfl
              simp only [Act.put, List.getElem_toArray, List.getElem_cons_succ, List.getElem_cons_zero, List.setIfInBounds_toArray, List.set_cons_zero, List.set_cons_succ]
              refine wpAnyH_take (i := 9) (v := ?_) rfl (by kernel_rfl) (by kernel_rfl) (by kernel_rfl) (fun _ _ _ h => h) (Or.inl ⟨by rfl, fun w0 hSw => ?_⟩) hHeld ?_
              rotate_left
              · (try dsimp only at hSw)
                go_simp
                try with_reducible rfl
              simp only [Act.put, List.getElem_toArray, List.getElem_cons_succ, List.getElem_cons_zero, List.setIfInBounds_toArray, List.set_cons_zero, List.set_cons_succ]
              refine wpAnyH_done (by kernel_rfl) ?_ _
              refine NoPanic.normal ?_
              go_wp2_with fail
              go_meet
              exact ⟨true, rfl, XE, fun _ => rfl⟩
            · have HD := Lib.hid (decide_eq_false ht)
              have HT : Hid (tb ≤ 0) := Int.not_lt.1 ht
              clear ht
              have b10 := drew_ext w9
              have XE := b10
              refine wp_region_noPanic ?_
              refine wp_region_held_drew (S := fun w' => (w'.cell? ⟨E, 0, none⟩ = some (.bool z4) ∧ w'.cell? ⟨E, 1, none⟩ = some (.slice d9 n9 e9) ∧ w'.cell? ⟨E, 2, none⟩ = some (.slice d10 n10 e10)) ∧ (w'.cell? ⟨w7.heap.size, 0, none⟩ = some (.bool z2) ∧ w'.cell? ⟨w7.heap.size, 1, none⟩ = some (.slice d5 n5 e5) ∧ w'.cell? ⟨w7.heap.size, 2, none⟩ = some (.slice d6 n6 e6))) (by kernel_rfl) (⟨(T1.out.ext XE).c3, (D8.out.ext XE).c3⟩) (fun hHeld => ?_)
              refine wpAnyH_take (i := 0) (v := ?_) rfl (by kernel_rfl) (by kernel_rfl) (by kernel_rfl) (fun _ _ _ h => h) (Or.inl ⟨by rfl, fun w0 hSw => ?_⟩) hHeld ?_
              rotate_left
              · (try dsimp only at hSw)
                go_simp
                try with_reducible rfl
              simp only [Act.put, List.getElem_toArray, List.getElem_cons_succ, List.getElem_cons_zero, List.setIfInBounds_toArray, List.set_cons_zero, List.set_cons_succ]
              refine wpAnyH_ready (rs := [1]) (by kernel_rfl) (by simp) ?_
              refine AllReadyH.cons (o := _) rfl (fun K hK => ?_) AllReadyH.nil
              go_simp
              go_at_call 62; refine (HI1.out _).mono ?_; rintro e w11 ⟨v11, rfl, b11, o11⟩; have O11 := Lib.hid o11; clear o11; (first | have XE := Ext.trans XE b11 | have XE := Ext.trans (Ext.trans XE (Ext.alloc _ _)) b11)
              go_wp2_with fail
              refine hK.out _ _ (⟨(T1.out.ext XE).c3, (D8.out.ext XE).c3⟩) (fun hHeld => ?_)
              clear hK K
              try simp only [Act.put, List.getElem_toArray, List.getElem_cons_succ, List.getElem_cons_zero, List.setIfInBounds_toArray, List.set_cons_zero, List.set_cons_succ]
              refine wpAnyH_ready (rs := [2]) (by kernel_rfl) (by simp) ?_
              refine AllReadyH.cons (o := _) rfl (fun K hK => ?_) AllReadyH.nil
              go_simp
              go_at_call 46; refine (HC1.out _ _ _ (RG.out.ext XE) O11.out.rd).mono ?_; rintro e w12 ⟨_, rfl, b12, rfl⟩; (first | have XE := Ext.trans XE b12 | have XE := Ext.trans (Ext.trans XE (Ext.alloc _ _)) b12)
              go_wp2_with fail
              refine hK.out _ _ (⟨(T1.out.ext XE).c3, (D8.out.ext XE).c3⟩) (fun hHeld => ?_)
              clear hK K
              try simp only [Act.put, List.getElem_toArray, List.getElem_cons_succ, List.getElem_cons_zero, List.setIfInBounds_toArray, List.set_cons_zero, List.set_cons_succ]
              refine wpAnyH_take (i := 3) (v := ?_) rfl (by kernel_rfl) (by kernel_rfl) (by kernel_rfl) (fun _ _ _ h => h) (Or.inl ⟨by rfl, fun w0 hSw => ?_⟩) hHeld ?_
              rotate_left
              · (try dsimp only at hSw)
                go_simp
                try with_reducible rfl
              simp only [Act.put, List.getElem_toArray, List.getElem_cons_succ, List.getElem_cons_zero, List.setIfInBounds_toArray, List.set_cons_zero, List.set_cons_succ]
              rw [HD.out]
              refine wpAnyH_take (i := 4) (v := ?_) rfl (by kernel_rfl) (by kernel_rfl) (by kernel_rfl) (fun _ _ _ h => h) (Or.inl ⟨by rfl, fun w0 hSw => ?_⟩) hHeld ?_
              rotate_left
              · (try dsimp only at hSw)
                go_simp
                try with_reducible rfl
              simp only [Act.put, List.getElem_toArray, List.getElem_cons_succ, List.getElem_cons_zero, List.setIfInBounds_toArray, List.set_cons_zero, List.set_cons_succ]
              refine wpAnyH_take (i := 5) (v := ?_) rfl (by kernel_rfl) (by kernel_rfl) (by kernel_rfl) (fun _ _ _ h => h) (Or.inl ⟨by rfl, fun w0 hSw => ?_⟩) hHeld ?_
              rotate_left
              · (try dsimp only at hSw)
                go_simp
                try with_reducible rfl
              simp only [Act.put, List.getElem_toArray, List.getElem_cons_succ, List.getElem_cons_zero, List.setIfInBounds_toArray, List.set_cons_zero, List.set_cons_succ]
              refine wpAnyH_ready (rs := [6]) (by kernel_rfl) (by simp) ?_
              refine AllReadyH.cons (o := _) rfl (fun K hK => ?_) AllReadyH.nil
              go_simp
              go_at_call 34; refine (HSU.out _ _ (RU9.out.ext XE)).mono ?_; rintro e w13 ⟨_, rfl, b13, rfl⟩; (first | have XE := Ext.trans XE b13 | have XE := Ext.trans (Ext.trans XE (Ext.alloc _ _)) b13)
              go_wp2_with fail
              refine hK.out _ _ (⟨(T1.out.ext XE).c3, (D8.out.ext XE).c3⟩) (fun hHeld => ?_)
              clear hK K
              try simp only [Act.put, List.getElem_toArray, List.getElem_cons_succ, List.getElem_cons_zero, List.setIfInBounds_toArray, List.set_cons_zero, List.set_cons_succ]
              refine wpAnyH_take (i := 7) (v := ?_) rfl (by kernel_rfl) (by kernel_rfl) (by kernel_rfl) (fun _ _ _ h => h) (Or.inl ⟨by rfl, fun w0 hSw => ?_⟩) hHeld ?_
              rotate_left
              · (try dsimp only at hSw)
                go_simp
                try with_reducible rfl
              simp only [Act.put, List.getElem_toArray, List.getElem_cons_succ, List.getElem_cons_zero, List.setIfInBounds_toArray, List.set_cons_zero, List.set_cons_succ]
              refine wpAnyH_take (i := 8) (v := ?_) rfl (by kernel_rfl) (by kernel_rfl) (by kernel_rfl) (fun _ _ _ h => h) (Or.inl ⟨by rfl, fun w0 hSw => ?_⟩) hHeld ?_
              rotate_left
              · (try dsimp only at hSw)
                go_simp
                try with_reducible rfl
              simp only [Act.put, List.getElem_toArray, List.getElem_cons_succ, List.getElem_cons_zero, List.setIfInBounds_toArray, List.set_cons_zero, List.set_cons_succ]
              refine wpAnyH_take (i := 9) (v := ?_) rfl (by kernel_rfl) (by kernel_rfl) (by kernel_rfl) (fun _ _ _ h => h) (Or.inl ⟨by rfl, fun w0 hSw => ?_⟩) hHeld ?_
              rotate_left
              · (try dsimp only at hSw)
                go_simp
                try with_reducible rfl
              simp only [Act.put, List.getElem_toArray, List.getElem_cons_succ, List.getElem_cons_zero, List.setIfInBounds_toArray, List.set_cons_zero, List.set_cons_succ]
              refine wpAnyH_done (by kernel_rfl) ?_ _
              refine NoPanic.normal ?_
              go_wp2_with fail
              go_meet
              exact ⟨us == 0, rfl, XE, fun h => by
                rcases h with h | h
                · exact absurd h (Int.not_lt.2 HT.out)
                · rw [h]; rfl⟩
        case rest =>
          as_aux_lemma =>
            obtain ⟨b0, rfl, b10, HB0⟩ := hcut
            generalize wc = w10 at *
            have HBR := Lib.hid (HBE.out b0 HB0.out)
            have F4 := Lib.hid (D4.out.ext (Ext.trans b9 b10))
            have F6 := Lib.hid (C6.out.ext (Ext.trans b7 (Ext.trans b8 (Ext.trans b9 b10))))
            have FG := Lib.hid (T1.out.ext b10)
            have QM := Lib.hid (RM8.out.ext (Ext.trans b9 b10))
            have QF := Lib.hid (RF.out.ext (Ext.trans b6 (Ext.trans b7 (Ext.trans b8 (Ext.trans b9 b10)))))
            have QG := Lib.hid (RG.out.ext b10)
            have b210 := (Ext.trans b3 (Ext.trans b4 (Ext.trans b5 (Ext.trans b6 (Ext.trans b7 (Ext.trans b8 (Ext.trans b9 b10)))))))
            have HLZ : Hid ((A.zip B).length = A.length) := by show _ = _; rw [List.length_zip, ← HLEN.out]; exact Nat.min_self _
            have SMH : Hid (Sz 56 (m * hf)) := SM.out.mul SHF.out
            have HMH : Hid (∀ w va vb, RdQ w va m → RdQ w vb hf → Calls Try.prog 56 #[va, vb] w (Gives w fun v' w' => OwnQ 148 0 w' v' (m * hf))) := fun w va vb h1 h2 => (rmul_any h1 h2 (SM.out.le (by decide)) (SHF.out.le (by decide))).mono fun _ _ ⟨v, e, b, o⟩ => ⟨v, e, b, o.mono (Nat.zero_le _)⟩
            have HSM : Hid (∀ w v, RdQ w v m → Calls Try.prog 34 #[v] w (Gives w fun v' _ => v' = .int .i64 m.num.sign)) := fun w v h => rsign_any h
            generalize m * hf = mh at *
            go_wp2_with fail
            go_loopw [18, 66] (fun s i wr => ∃ (k : Nat) (br : Bool), i = .int .i64 k ∧ s = .bool br ∧ k ≤ A.length ∧ Ext w10 wr ∧ Hid (bro bg ((A.zip B).drop k) br = true)) (fun _ i _ => A.length - (intOf i).toNat)
            case atStart => exact ⟨0, b0, rfl, rfl, Nat.zero_le _, Ext.refl _, HBR⟩
            case round =>
              as_aux_lemma =>
                obtain ⟨k, br, rfl, rfl, hk, hx, hC⟩ := hrel
                have b11 := hx
                generalize wr = w11 at *
                by_cases hlt : k < A.length
                · have hltm : k < B.length := by have := HLEN.out; omega
                  obtain ⟨b, off, cs, rfl, hcl, hT, hc⟩ := RA.out.at (by decide) k hlt
                  obtain ⟨b', off', cs', rfl, hcl', hT', hc'⟩ := RB.out.at (by decide) k hltm
                  have hz : k < (A.zip B).length := by rw [HLZ.out]; exact hlt
                  have hC2 := hC.out
                  rw [List.drop_eq_getElem_cons hz, List.getElem_zip, bro_cons] at hC2
                  have HC := Lib.hid hC2
                  have hin : (A[k], B[k]) ∈ A.zip B := by rw [← List.getElem_zip (h := hz)]; exact List.getElem_mem hz
                  have hh := HCH.out.2.2.1 _ hin
                  have h1 : (A[k].1 + A[k].2 * m - (B[k].1 + B[k].2 * m)).num.sign ≤ 0 := sign_le.2 (hh m (Rat.le_of_lt HCH.out.1) Rat.le_refl)
                  have h2 : (A[k].1 + A[k].2 * mh - (B[k].1 + B[k].2 * mh)).num.sign ≤ 0 := sign_le.2 (hh mh HHF.out.1 HHF.out.2)
                  have H1 := Lib.hid (decide_eq_false (Int.not_lt.2 h1))
                  have H2 := Lib.hid (decide_eq_false (Int.not_lt.2 h2))
                  have S2 := Lib.hid (SA.out _ (List.getElem_mem hlt))
                  have S3 := Lib.hid (SB.out _ (List.getElem_mem hltm))
                  have HA : Hid (RdD w2 (.agg cs.toArray) A[k].1 A[k].2) := OwnD.rd hT
                  have HB : Hid (RdD w2 (.agg cs'.toArray) B[k].1 B[k].2) := OwnD.rd hT'
                  have KA : Hid (Bo w2 b (off + k * 6) cs) := Bo.of hc hcl
                  have KB : Hid (Bo w2 b' (off' + k * 6) cs') := Bo.of hc' hcl'
                  clear hT hT' hc hc' hcl hcl' hC hC2 hin hh h1 h2
                  generalize A[k] = p at *
                  generalize B[k] = y at *
                  obtain ⟨x0, x1, x2, x3, x4, x5, rfl, -, -⟩ := cells_D HA.out
                  obtain ⟨y0, y1, y2, y3, y4, y5, rfl, -, -⟩ := cells_D HB.out
                  have b211 := Ext.trans b210 b11
                  have CA := Lib.hid (Bo.ext KA.out b211)
                  have CB := Lib.hid (Bo.ext KB.out b211)
                  have DA := Lib.hid (HA.out.ext b211)
                  have DB := Lib.hid (HB.out.ext b211)
                  have G4 := Lib.hid (F4.out.ext b11)
                  have G6 := Lib.hid (F6.out.ext b11)
                  have GG := Lib.hid (FG.out.ext b11)
                  have LM := Lib.hid (QM.out.ext b11)
                  have LF := Lib.hid (QF.out.ext b11)
                  have LG := Lib.hid (QG.out.ext b11)
                  have a1 := atC S2.out (SM.out.le (M := 1000) (by decide))
                  have c1 := atC S3.out (SM.out.le (M := 1000) (by decide))
                  have a2 := atC S2.out (SMH.out.le (M := 1000) (by decide))
                  have c2 := atC S3.out (SMH.out.le (M := 1000) (by decide))
                  have a3 := atC S2.out (SG.out.le (M := 1000) (by decide))
                  have c3 := atC S3.out (SG.out.le (M := 1000) (by decide))
                  have M1 := Lib.hid (cmC a1.2 c1.2)
                  have M2 := Lib.hid (cmC a2.2 c2.2)
                  have M3 := Lib.hid (cmC a3.2 c3.2)
                  have N1 := Lib.hid a1.1
                  have N2 := Lib.hid a2.1
                  have N3 := Lib.hid a3.1
                  have O1 := Lib.hid c1.1
                  have O2 := Lib.hid c2.1
                  have O3 := Lib.hid c3.1
                  clear a1 a2 a3 c1 c2 c3 KA KB HA HB
                  generalize (p.1 + p.2 * m - (y.1 + y.2 * m)).num.sign = t1 at *
                  generalize (p.1 + p.2 * mh - (y.1 + y.2 * mh)).num.sign = t2 at *
                  generalize (p.1 + p.2 * bg - (y.1 + y.2 * bg)).num.sign = t3 at *
                  generalize p.1 + p.2 * m = f1 at *
                  generalize p.1 + p.2 * mh = f2 at *
                  generalize p.1 + p.2 * bg = f3 at *
                  generalize y.1 + y.2 * m = g1 at *
                  generalize y.1 + y.2 * mh = g2 at *
                  generalize y.1 + y.2 * bg = g3 at *
                  go_upto_region 14 with (fail)
                  go_cut [102] (fun s102 wx => s102 = .bool false ∧ Ext w11 wx)
                  case first =>
                    as_aux_lemma =>
                      have b12 := drew_ext w11
                      have XE := b12
                      refine wp_region_noPanic ?_
                      refine wp_region_held_drew (S := fun w' => (w'.cell? ⟨b, off + k * 6, none⟩ = some (x0) ∧ w'.cell? ⟨b, off + k * 6 + 1, none⟩ = some (x1) ∧ w'.cell? ⟨b, off + k * 6 + 2, none⟩ = some (x2) ∧ w'.cell? ⟨b, off + k * 6 + 3, none⟩ = some (x3) ∧ w'.cell? ⟨b, off + k * 6 + 4, none⟩ = some (x4) ∧ w'.cell? ⟨b, off + k * 6 + 5, none⟩ = some (x5)) ∧ (w'.cell? ⟨b', off' + k * 6, none⟩ = some (y0) ∧ w'.cell? ⟨b', off' + k * 6 + 1, none⟩ = some (y1) ∧ w'.cell? ⟨b', off' + k * 6 + 2, none⟩ = some (y2) ∧ w'.cell? ⟨b', off' + k * 6 + 3, none⟩ = some (y3) ∧ w'.cell? ⟨b', off' + k * 6 + 4, none⟩ = some (y4) ∧ w'.cell? ⟨b', off' + k * 6 + 5, none⟩ = some (y5)) ∧ (w'.cell? ⟨w3.heap.size, 0, none⟩ = some (.bool z0) ∧ w'.cell? ⟨w3.heap.size, 1, none⟩ = some (.slice d1 n1 e1) ∧ w'.cell? ⟨w3.heap.size, 2, none⟩ = some (.slice d2 n2 e2)) ∧ (w'.cell? ⟨w5.heap.size, 0, none⟩ = some (.bool z1) ∧ w'.cell? ⟨w5.heap.size, 1, none⟩ = some (.slice d3 n3 e3) ∧ w'.cell? ⟨w5.heap.size, 2, none⟩ = some (.slice d4 n4 e4))) (by kernel_rfl) (⟨(CA.out.ext XE).c6, (CB.out.ext XE).c6, (G4.out.ext XE).c3, (G6.out.ext XE).c3⟩) (fun hHeld => ?_)
                      refine wpAnyH_take (i := 0) (v := ?_) rfl (by kernel_rfl) (by kernel_rfl) (by kernel_rfl) (fun _ _ _ h => h) (Or.inl ⟨by rfl, fun w0 hSw => ?_⟩) hHeld ?_
                      rotate_left
                      · (try dsimp only at hSw)
                        go_simp
                        try with_reducible rfl
                      simp only [Act.put, List.getElem_toArray, List.getElem_cons_succ, List.getElem_cons_zero, List.setIfInBounds_toArray, List.set_cons_zero, List.set_cons_succ]
                      refine wpAnyH_take (i := 1) (v := ?_) rfl (by kernel_rfl) (by kernel_rfl) (by kernel_rfl) (fun _ _ _ h => h) (Or.inl ⟨by rfl, fun w0 hSw => ?_⟩) hHeld ?_
                      rotate_left
                      · (try dsimp only at hSw)
                        go_simp
                        try with_reducible rfl
                      simp only [Act.put, List.getElem_toArray, List.getElem_cons_succ, List.getElem_cons_zero, List.setIfInBounds_toArray, List.set_cons_zero, List.set_cons_succ]
                      refine wpAnyH_take (i := 2) (v := ?_) rfl (by kernel_rfl) (by kernel_rfl) (by kernel_rfl) (fun _ _ _ h => h) (Or.inl ⟨by rfl, fun w0 hSw => ?_⟩) hHeld ?_
                      rotate_left
                      · (try dsimp only at hSw)
                        go_simp
                        try with_reducible rfl
                      simp only [Act.put, List.getElem_toArray, List.getElem_cons_succ, List.getElem_cons_zero, List.setIfInBounds_toArray, List.set_cons_zero, List.set_cons_succ]
                      refine wpAnyH_take (i := 3) (v := ?_) rfl (by kernel_rfl) (by kernel_rfl) (by kernel_rfl) (fun _ _ _ h => h) (Or.inl ⟨by rfl, fun w0 hSw => ?_⟩) hHeld ?_
                      rotate_left
                      · (try dsimp only at hSw)
                        go_simp
                        try with_reducible rfl
                      simp only [Act.put, List.getElem_toArray, List.getElem_cons_succ, List.getElem_cons_zero, List.setIfInBounds_toArray, List.set_cons_zero, List.set_cons_succ]
                      refine wpAnyH_take (i := 4) (v := ?_) rfl (by kernel_rfl) (by kernel_rfl) (by kernel_rfl) (fun _ _ _ h => h) (Or.inl ⟨by rfl, fun w0 hSw => ?_⟩) hHeld ?_
                      rotate_left
                      · (try dsimp only at hSw)
                        go_simp
                        try with_reducible rfl
                      simp only [Act.put, List.getElem_toArray, List.getElem_cons_succ, List.getElem_cons_zero, List.setIfInBounds_toArray, List.set_cons_zero, List.set_cons_succ]
                      refine wpAnyH_take (i := 6) (v := ?_) rfl (by kernel_rfl) (by kernel_rfl) (by kernel_rfl) (fun _ _ _ h => h) (Or.inl ⟨by rfl, fun w0 hSw => ?_⟩) hHeld ?_
                      rotate_left
                      · (try dsimp only at hSw)
                        go_simp
                        try with_reducible rfl
                      simp only [Act.put, List.getElem_toArray, List.getElem_cons_succ, List.getElem_cons_zero, List.setIfInBounds_toArray, List.set_cons_zero, List.set_cons_succ]
                      refine wpAnyH_take (i := 7) (v := ?_) rfl (by kernel_rfl) (by kernel_rfl) (by kernel_rfl) (fun _ _ _ h => h) (Or.inl ⟨by rfl, fun w0 hSw => ?_⟩) hHeld ?_
                      rotate_left
                      · (try dsimp only at hSw)
                        go_simp
                        try with_reducible rfl
                      simp only [Act.put, List.getElem_toArray, List.getElem_cons_succ, List.getElem_cons_zero, List.setIfInBounds_toArray, List.set_cons_zero, List.set_cons_succ]
                      refine wpAnyH_take (i := 8) (v := ?_) rfl (by kernel_rfl) (by kernel_rfl) (by kernel_rfl) (fun _ _ _ h => h) (Or.inl ⟨by rfl, fun w0 hSw => ?_⟩) hHeld ?_
                      rotate_left
                      · (try dsimp only at hSw)
                        go_simp
                        try with_reducible rfl
                      simp only [Act.put, List.getElem_toArray, List.getElem_cons_succ, List.getElem_cons_zero, List.setIfInBounds_toArray, List.set_cons_zero, List.set_cons_succ]
                      refine wpAnyH_take (i := 9) (v := ?_) rfl (by kernel_rfl) (by kernel_rfl) (by kernel_rfl) (fun _ _ _ h => h) (Or.inl ⟨by rfl, fun w0 hSw => ?_⟩) hHeld ?_
                      rotate_left
                      · (try dsimp only at hSw)
                        go_simp
                        try with_reducible rfl
                      simp only [Act.put, List.getElem_toArray, List.getElem_cons_succ, List.getElem_cons_zero, List.setIfInBounds_toArray, List.set_cons_zero, List.set_cons_succ]
                      refine wpAnyH_take (i := 10) (v := ?_) rfl (by kernel_rfl) (by kernel_rfl) (by kernel_rfl) (fun _ _ _ h => h) (Or.inl ⟨by rfl, fun w0 hSw => ?_⟩) hHeld ?_
                      rotate_left
                      · (try dsimp only at hSw)
                        go_simp
                        try with_reducible rfl
                      simp only [Act.put, List.getElem_toArray, List.getElem_cons_succ, List.getElem_cons_zero, List.setIfInBounds_toArray, List.set_cons_zero, List.set_cons_succ]
                      refine wpAnyH_ready (rs := [5]) (by kernel_rfl) (by simp) ?_
                      refine AllReadyH.cons (o := _) rfl (fun K hK => ?_) AllReadyH.nil
                      go_simp
                      go_at_call 29; refine (N1.out _ _ _ (DA.out.ext XE) (LM.out.ext XE)).mono ?_; rintro e w13 ⟨v13, rfl, b13, o13⟩; have O13 := Lib.hid o13; clear o13; (first | have XE := Ext.trans XE b13 | have XE := Ext.trans (Ext.trans XE (Ext.alloc _ _)) b13)
                      go_wp2_with fail
                      refine hK.out _ _ (⟨(CA.out.ext XE).c6, (CB.out.ext XE).c6, (G4.out.ext XE).c3, (G6.out.ext XE).c3⟩) (fun hHeld => ?_)
                      clear hK K
                      try simp only [Act.put, List.getElem_toArray, List.getElem_cons_succ, List.getElem_cons_zero, List.setIfInBounds_toArray, List.set_cons_zero, List.set_cons_succ]
                      refine wpAnyH_ready (rs := [11]) (by kernel_rfl) (by simp) ?_
                      refine AllReadyH.cons (o := _) rfl (fun K hK => ?_) AllReadyH.nil
                      go_simp
                      go_at_call 29; refine (O1.out _ _ _ (DB.out.ext XE) (LM.out.ext XE)).mono ?_; rintro e w14 ⟨v14, rfl, b14, o14⟩; have O14 := Lib.hid o14; clear o14; (first | have XE := Ext.trans XE b14 | have XE := Ext.trans (Ext.trans XE (Ext.alloc _ _)) b14)
                      go_wp2_with fail
                      refine hK.out _ _ (⟨(CA.out.ext XE).c6, (CB.out.ext XE).c6, (G4.out.ext XE).c3, (G6.out.ext XE).c3⟩) (fun hHeld => ?_)
                      clear hK K
                      try simp only [Act.put, List.getElem_toArray, List.getElem_cons_succ, List.getElem_cons_zero, List.setIfInBounds_toArray, List.set_cons_zero, List.set_cons_succ]
                      refine wpAnyH_ready (rs := [12]) (by kernel_rfl) (by simp) ?_
                      refine AllReadyH.cons (o := _) rfl (fun K hK => ?_) AllReadyH.nil
                      go_simp
                      go_at_call 46; refine (M1.out _ _ _ (O13.out.rd.ext b14) O14.out.rd).mono ?_; rintro e w15 ⟨_, rfl, b15, rfl⟩; (first | have XE := Ext.trans XE b15 | have XE := Ext.trans (Ext.trans XE (Ext.alloc _ _)) b15)
                      go_wp2_with fail
                      refine hK.out _ _ (⟨(CA.out.ext XE).c6, (CB.out.ext XE).c6, (G4.out.ext XE).c3, (G6.out.ext XE).c3⟩) (fun hHeld => ?_)
                      clear hK K
                      try simp only [Act.put, List.getElem_toArray, List.getElem_cons_succ, List.getElem_cons_zero, List.setIfInBounds_toArray, List.set_cons_zero, List.set_cons_succ]
                      refine wpAnyH_take (i := 13) (v := ?_) rfl (by kernel_rfl) (by kernel_rfl) (by kernel_rfl) (fun _ _ _ h => h) (Or.inl ⟨by rfl, fun w0 hSw => ?_⟩) hHeld ?_
                      rotate_left
                      · (try dsimp only at hSw)
                        go_simp
                        try with_reducible rfl
                      simp only [Act.put, List.getElem_toArray, List.getElem_cons_succ, List.getElem_cons_zero, List.setIfInBounds_toArray, List.set_cons_zero, List.set_cons_succ]
                      rw [H1.out]
                      refine wpAnyH_take (i := 14) (v := ?_) rfl (by kernel_rfl) (by kernel_rfl) (by kernel_rfl) (fun _ _ _ h => h) (Or.inl ⟨by rfl, fun w0 hSw => ?_⟩) hHeld ?_
                      rotate_left
                      · (try dsimp only at hSw)
                        go_simp
                        try with_reducible rfl
                      simp only [Act.put, List.getElem_toArray, List.getElem_cons_succ, List.getElem_cons_zero, List.setIfInBounds_toArray, List.set_cons_zero, List.set_cons_succ]
                      refine wpAnyH_take (i := 15) (v := ?_) rfl (by kernel_rfl) (by kernel_rfl) (by kernel_rfl) (fun _ _ _ h => h) (Or.inl ⟨by rfl, fun w0 hSw => ?_⟩) hHeld ?_
                      rotate_left
                      · (try dsimp only at hSw)
                        go_simp
                        try with_reducible rfl
                      simp only [Act.put, List.getElem_toArray, List.getElem_cons_succ, List.getElem_cons_zero, List.setIfInBounds_toArray, List.set_cons_zero, List.set_cons_succ]
                      refine wpAnyH_take (i := 16) (v := ?_) rfl (by kernel_rfl) (by kernel_rfl) (by kernel_rfl) (fun _ _ _ h => h) (Or.inl ⟨by rfl, fun w0 hSw => ?_⟩) hHeld ?_
                      rotate_left
                      · (try dsimp only at hSw)
                        go_simp
                        try with_reducible rfl
                      simp only [Act.put, List.getElem_toArray, List.getElem_cons_succ, List.getElem_cons_zero, List.setIfInBounds_toArray, List.set_cons_zero, List.set_cons_succ]
                      refine wpAnyH_take (i := 17) (v := ?_) rfl (by kernel_rfl) (by kernel_rfl) (by kernel_rfl) (fun _ _ _ h => h) (Or.inl ⟨by rfl, fun w0 hSw => ?_⟩) hHeld ?_
                      rotate_left
                      · (try dsimp only at hSw)
                        go_simp
                        try with_reducible rfl
                      simp only [Act.put, List.getElem_toArray, List.getElem_cons_succ, List.getElem_cons_zero, List.setIfInBounds_toArray, List.set_cons_zero, List.set_cons_succ]
                      refine wpAnyH_take (i := 18) (v := ?_) rfl (by kernel_rfl) (by kernel_rfl) (by kernel_rfl) (fun _ _ _ h => h) (Or.inl ⟨by rfl, fun w0 hSw => ?_⟩) hHeld ?_
                      rotate_left
                      · (try dsimp only at hSw)
                        go_simp
                        try with_reducible rfl
                      simp only [Act.put, List.getElem_toArray, List.getElem_cons_succ, List.getElem_cons_zero, List.setIfInBounds_toArray, List.set_cons_zero, List.set_cons_succ]
                      refine wpAnyH_take (i := 19) (v := ?_) rfl (by kernel_rfl) (by kernel_rfl) (by kernel_rfl) (fun _ _ _ h => h) (Or.inl ⟨by rfl, fun w0 hSw => ?_⟩) hHeld ?_
                      rotate_left
                      · (try dsimp only at hSw)
                        go_simp
                        try with_reducible rfl
                      simp only [Act.put, List.getElem_toArray, List.getElem_cons_succ, List.getElem_cons_zero, List.setIfInBounds_toArray, List.set_cons_zero, List.set_cons_succ]
                      refine wpAnyH_take (i := 20) (v := ?_) rfl (by kernel_rfl) (by kernel_rfl) (by kernel_rfl) (fun _ _ _ h => h) (Or.inl ⟨by rfl, fun w0 hSw => ?_⟩) hHeld ?_
                      rotate_left
                      · (try dsimp only at hSw)
                        go_simp
                        try with_reducible rfl
                      simp only [Act.put, List.getElem_toArray, List.getElem_cons_succ, List.getElem_cons_zero, List.setIfInBounds_toArray, List.set_cons_zero, List.set_cons_succ]
                      refine wpAnyH_take (i := 23) (v := ?_) rfl (by kernel_rfl) (by kernel_rfl) (by kernel_rfl) (fun _ _ _ h => h) (Or.inl ⟨by rfl, fun w0 hSw => ?_⟩) hHeld ?_
                      rotate_left
                      · (try dsimp only at hSw)
                        go_simp
                        try with_reducible rfl
                      simp only [Act.put, List.getElem_toArray, List.getElem_cons_succ, List.getElem_cons_zero, List.setIfInBounds_toArray, List.set_cons_zero, List.set_cons_succ]
                      refine wpAnyH_take (i := 24) (v := ?_) rfl (by kernel_rfl) (by kernel_rfl) (by kernel_rfl) (fun _ _ _ h => h) (Or.inl ⟨by rfl, fun w0 hSw => ?_⟩) hHeld ?_
                      rotate_left
                      · (try dsimp only at hSw)
                        go_simp
                        try with_reducible rfl
                      simp only [Act.put, List.getElem_toArray, List.getElem_cons_succ, List.getElem_cons_zero, List.setIfInBounds_toArray, List.set_cons_zero, List.set_cons_succ]
                      refine wpAnyH_take (i := 25) (v := ?_) rfl (by kernel_rfl) (by kernel_rfl) (by kernel_rfl) (fun _ _ _ h => h) (Or.inl ⟨by rfl, fun w0 hSw => ?_⟩) hHeld ?_
                      rotate_left
                      · (try dsimp only at hSw)
                        go_simp
                        try with_reducible rfl
                      simp only [Act.put, List.getElem_toArray, List.getElem_cons_succ, List.getElem_cons_zero, List.setIfInBounds_toArray, List.set_cons_zero, List.set_cons_succ]
                      refine wpAnyH_take (i := 26) (v := ?_) rfl (by kernel_rfl) (by kernel_rfl) (by kernel_rfl) (fun _ _ _ h => h) (Or.inl ⟨by rfl, fun w0 hSw => ?_⟩) hHeld ?_
                      rotate_left
                      · (try dsimp only at hSw)
                        go_simp
                        try with_reducible rfl
                      simp only [Act.put, List.getElem_toArray, List.getElem_cons_succ, List.getElem_cons_zero, List.setIfInBounds_toArray, List.set_cons_zero, List.set_cons_succ]
                      refine wpAnyH_take (i := 27) (v := ?_) rfl (by kernel_rfl) (by kernel_rfl) (by kernel_rfl) (fun _ _ _ h => h) (Or.inl ⟨by rfl, fun w0 hSw => ?_⟩) hHeld ?_
                      rotate_left
                      · (try dsimp only at hSw)
                        go_simp
                        try with_reducible rfl
                      simp only [Act.put, List.getElem_toArray, List.getElem_cons_succ, List.getElem_cons_zero, List.setIfInBounds_toArray, List.set_cons_zero, List.set_cons_succ]
                      refine wpAnyH_take (i := 28) (v := ?_) rfl (by kernel_rfl) (by kernel_rfl) (by kernel_rfl) (fun _ _ _ h => h) (Or.inl ⟨by rfl, fun w0 hSw => ?_⟩) hHeld ?_
                      rotate_left
                      · (try dsimp only at hSw)
                        go_simp
                        try with_reducible rfl
                      simp only [Act.put, List.getElem_toArray, List.getElem_cons_succ, List.getElem_cons_zero, List.setIfInBounds_toArray, List.set_cons_zero, List.set_cons_succ]
                      refine wpAnyH_ready (rs := [21]) (by kernel_rfl) (by simp) ?_
                      refine AllReadyH.cons (o := _) rfl (fun K hK => ?_) AllReadyH.nil
                      go_simp
                      go_at_call 56; refine (HMH.out _ _ _ (LM.out.ext XE) (LF.out.ext XE)).mono ?_; rintro e w16 ⟨v16, rfl, b16, o16⟩; have O16 := Lib.hid o16; clear o16; (first | have XE := Ext.trans XE b16 | have XE := Ext.trans (Ext.trans XE (Ext.alloc _ _)) b16)
                      go_wp2_with fail
                      refine hK.out _ _ (⟨(CA.out.ext XE).c6, (CB.out.ext XE).c6, (G4.out.ext XE).c3, (G6.out.ext XE).c3⟩) (fun hHeld => ?_)
                      clear hK K
                      try simp only [Act.put, List.getElem_toArray, List.getElem_cons_succ, List.getElem_cons_zero, List.setIfInBounds_toArray, List.set_cons_zero, List.set_cons_succ]
                      refine wpAnyH_ready (rs := [22]) (by kernel_rfl) (by simp) ?_
                      refine AllReadyH.cons (o := _) rfl (fun K hK => ?_) AllReadyH.nil
                      go_simp
                      go_at_call 29; refine (N2.out _ _ _ (DA.out.ext XE) O16.out.rd).mono ?_; rintro e w17 ⟨v17, rfl, b17, o17⟩; have O17 := Lib.hid o17; clear o17; (first | have XE := Ext.trans XE b17 | have XE := Ext.trans (Ext.trans XE (Ext.alloc _ _)) b17)
                      go_wp2_with fail
                      refine hK.out _ _ (⟨(CA.out.ext XE).c6, (CB.out.ext XE).c6, (G4.out.ext XE).c3, (G6.out.ext XE).c3⟩) (fun hHeld => ?_)
                      clear hK K
                      try simp only [Act.put, List.getElem_toArray, List.getElem_cons_succ, List.getElem_cons_zero, List.setIfInBounds_toArray, List.set_cons_zero, List.set_cons_succ]
                      refine wpAnyH_ready (rs := [29]) (by kernel_rfl) (by simp) ?_
                      refine AllReadyH.cons (o := _) rfl (fun K hK => ?_) AllReadyH.nil
                      go_simp
                      go_at_call 56; refine (HMH.out _ _ _ (LM.out.ext XE) (LF.out.ext XE)).mono ?_; rintro e w18 ⟨v18, rfl, b18, o18⟩; have O18 := Lib.hid o18; clear o18; (first | have XE := Ext.trans XE b18 | have XE := Ext.trans (Ext.trans XE (Ext.alloc _ _)) b18)
                      go_wp2_with fail
                      refine hK.out _ _ (⟨(CA.out.ext XE).c6, (CB.out.ext XE).c6, (G4.out.ext XE).c3, (G6.out.ext XE).c3⟩) (fun hHeld => ?_)
                      clear hK K
                      try simp only [Act.put, List.getElem_toArray, List.getElem_cons_succ, List.getElem_cons_zero, List.setIfInBounds_toArray, List.set_cons_zero, List.set_cons_succ]
                      refine wpAnyH_ready (rs := [30]) (by kernel_rfl) (by simp) ?_
                      refine AllReadyH.cons (o := _) rfl (fun K hK => ?_) AllReadyH.nil
                      go_simp
                      go_at_call 29; refine (O2.out _ _ _ (DB.out.ext XE) O18.out.rd).mono ?_; rintro e w19 ⟨v19, rfl, b19, o19⟩; have O19 := Lib.hid o19; clear o19; (first | have XE := Ext.trans XE b19 | have XE := Ext.trans (Ext.trans XE (Ext.alloc _ _)) b19)
                      go_wp2_with fail
                      refine hK.out _ _ (⟨(CA.out.ext XE).c6, (CB.out.ext XE).c6, (G4.out.ext XE).c3, (G6.out.ext XE).c3⟩) (fun hHeld => ?_)
                      clear hK K
                      try simp only [Act.put, List.getElem_toArray, List.getElem_cons_succ, List.getElem_cons_zero, List.setIfInBounds_toArray, List.set_cons_zero, List.set_cons_succ]
                      refine wpAnyH_ready (rs := [31]) (by kernel_rfl) (by simp) ?_
                      refine AllReadyH.cons (o := _) rfl (fun K hK => ?_) AllReadyH.nil
                      go_simp
                      go_at_call 46; refine (M2.out _ _ _ (O17.out.rd.ext (Ext.trans b18 b19)) O19.out.rd).mono ?_; rintro e w20 ⟨_, rfl, b20, rfl⟩; (first | have XE := Ext.trans XE b20 | have XE := Ext.trans (Ext.trans XE (Ext.alloc _ _)) b20)
                      go_wp2_with fail
                      refine hK.out _ _ (⟨(CA.out.ext XE).c6, (CB.out.ext XE).c6, (G4.out.ext XE).c3, (G6.out.ext XE).c3⟩) (fun hHeld => ?_)
                      clear hK K
                      try simp only [Act.put, List.getElem_toArray, List.getElem_cons_succ, List.getElem_cons_zero, List.setIfInBounds_toArray, List.set_cons_zero, List.set_cons_succ]
                      refine wpAnyH_take (i := 32) (v := ?_) rfl (by kernel_rfl) (by kernel_rfl) (by kernel_rfl) (fun _ _ _ h => h) (Or.inl ⟨by rfl, fun w0 hSw => ?_⟩) hHeld ?_
                      rotate_left
                      · (try dsimp only at hSw)
                        go_simp
                        try with_reducible rfl
                      simp only [Act.put, List.getElem_toArray, List.getElem_cons_succ, List.getElem_cons_zero, List.setIfInBounds_toArray, List.set_cons_zero, List.set_cons_succ]
                      refine wpAnyH_take (i := 33) (v := ?_) rfl (by kernel_rfl) (by kernel_rfl) (by kernel_rfl) (fun _ _ _ h => h) (Or.inl ⟨by rfl, fun w0 hSw => ?_⟩) hHeld ?_
                      rotate_left
                      · (try dsimp only at hSw)
                        go_simp
                        try with_reducible rfl
                      simp only [Act.put, List.getElem_toArray, List.getElem_cons_succ, List.getElem_cons_zero, List.setIfInBounds_toArray, List.set_cons_zero, List.set_cons_succ]
                      refine wpAnyH_done (by kernel_rfl) ?_ _
                      refine NoPanic.normal ?_
                      rw [H2.out]
                      go_wp2_with fail
                      go_meet
                      exact ⟨rfl, XE⟩
                  case rest =>
                    as_aux_lemma =>
                      obtain ⟨rfl, b12⟩ := hcut
                      generalize wc = w12 at *
                      have CA := Lib.hid (Bo.ext CA.out b12)
                      have CB := Lib.hid (Bo.ext CB.out b12)
                      have DA := Lib.hid (DA.out.ext b12)
                      have DB := Lib.hid (DB.out.ext b12)
                      have GG := Lib.hid (GG.out.ext b12)
                      have LG := Lib.hid (LG.out.ext b12)
                      have b1012 := Ext.trans b11 b12
                      go_upto_region 16 with (fail)
                      cases br with
                      | true =>
                        have b13 := drew_ext w12
                        have XE := b13
                        refine wp_region_noPanic ?_
                        refine wp_region_held_drew (S := fun w' => True) (by kernel_rfl) (trivial) (fun hHeld => ?_)
                        refine wpAnyH_take (i := 0) (v := ?_) rfl (by kernel_rfl) (by kernel_rfl) (by kernel_rfl) (fun _ _ _ h => h) (Or.inl ⟨by rfl, fun w0 hSw => ?_⟩) hHeld ?_
                        rotate_left
                        · (try dsimp only at hSw)
                          go_simp
                          try with_reducible rfl
                        simp only [Act.put, List.getElem_toArray, List.getElem_cons_succ, List.getElem_cons_zero, List.setIfInBounds_toArray, List.set_cons_zero, List.set_cons_succ]
                        refine wpAnyH_take (i := 1) (v := ?_) rfl (by kernel_rfl) (by kernel_rfl) (by kernel_rfl) (fun _ _ _ h => h) (Or.inl ⟨by rfl, fun w0 hSw => ?_⟩) hHeld ?_
                        rotate_left
                        · (try dsimp only at hSw)
                          go_simp
                          try with_reducible rfl
                        simp only [Act.put, List.getElem_toArray, List.getElem_cons_succ, List.getElem_cons_zero, List.setIfInBounds_toArray, List.set_cons_zero, List.set_cons_succ]
                        refine wpAnyH_take (i := 2) rfl (by kernel_rfl) (by kernel_rfl) (by kernel_rfl) (fun _ _ _ h => h) (Or.inr ⟨by rfl, rfl⟩) hHeld ?_
                        simp only [Act.put, List.getElem_toArray, List.getElem_cons_succ, List.getElem_cons_zero, List.setIfInBounds_toArray, List.set_cons_zero, List.set_cons_succ]
                        refine wpAnyH_take (i := 3) rfl (by kernel_rfl) (by kernel_rfl) (by kernel_rfl) (fun _ _ _ h => h) (Or.inr ⟨by rfl, rfl⟩) hHeld ?_
                        simp only [Act.put, List.getElem_toArray, List.getElem_cons_succ, List.getElem_cons_zero, List.setIfInBounds_toArray, List.set_cons_zero, List.set_cons_succ]
                        refine wpAnyH_take (i := 4) rfl (by kernel_rfl) (by kernel_rfl) (by kernel_rfl) (fun _ _ _ h => h) (Or.inr ⟨by rfl, rfl⟩) hHeld ?_
                        simp only [Act.put, List.getElem_toArray, List.getElem_cons_succ, List.getElem_cons_zero, List.setIfInBounds_toArray, List.set_cons_zero, List.set_cons_succ]
                        refine wpAnyH_take (i := 5) rfl (by kernel_rfl) (by kernel_rfl) (by kernel_rfl) (fun _ _ _ h => h) (Or.inr ⟨by rfl, rfl⟩) hHeld ?_
                        simp only [Act.put, List.getElem_toArray, List.getElem_cons_succ, List.getElem_cons_zero, List.setIfInBounds_toArray, List.set_cons_zero, List.set_cons_succ]
                        refine wpAnyH_take (i := 6) rfl (by kernel_rfl) (by kernel_rfl) (by kernel_rfl) (fun _ _ _ h => h) (Or.inr ⟨by rfl, rfl⟩) hHeld ?_
                        simp only [Act.put, List.getElem_toArray, List.getElem_cons_succ, List.getElem_cons_zero, List.setIfInBounds_toArray, List.set_cons_zero, List.set_cons_succ]
                        refine wpAnyH_take (i := 7) rfl (by kernel_rfl) (by kernel_rfl) (by kernel_rfl) (fun _ _ _ h => h) (Or.inr ⟨by rfl, rfl⟩) hHeld ?_
                        simp only [Act.put, List.getElem_toArray, List.getElem_cons_succ, List.getElem_cons_zero, List.setIfInBounds_toArray, List.set_cons_zero, List.set_cons_succ]
                        refine wpAnyH_take (i := 8) rfl (by kernel_rfl) (by kernel_rfl) (by kernel_rfl) (fun _ _ _ h => h) (Or.inr ⟨by rfl, rfl⟩) hHeld ?_
                        simp only [Act.put, List.getElem_toArray, List.getElem_cons_succ, List.getElem_cons_zero, List.setIfInBounds_toArray, List.set_cons_zero, List.set_cons_succ]
                        refine wpAnyH_take (i := 9) rfl (by kernel_rfl) (by kernel_rfl) (by kernel_rfl) (fun _ _ _ h => h) (Or.inr ⟨by rfl, rfl⟩) hHeld ?_
                        simp only [Act.put, List.getElem_toArray, List.getElem_cons_succ, List.getElem_cons_zero, List.setIfInBounds_toArray, List.set_cons_zero, List.set_cons_succ]
                        refine wpAnyH_take (i := 10) rfl (by kernel_rfl) (by kernel_rfl) (by kernel_rfl) (fun _ _ _ h => h) (Or.inr ⟨by rfl, rfl⟩) hHeld ?_
                        simp only [Act.put, List.getElem_toArray, List.getElem_cons_succ, List.getElem_cons_zero, List.setIfInBounds_toArray, List.set_cons_zero, List.set_cons_succ]
                        refine wpAnyH_take (i := 11) rfl (by kernel_rfl) (by kernel_rfl) (by kernel_rfl) (fun _ _ _ h => h) (Or.inr ⟨by rfl, rfl⟩) hHeld ?_
                        simp only [Act.put, List.getElem_toArray, List.getElem_cons_succ, List.getElem_cons_zero, List.setIfInBounds_toArray, List.set_cons_zero, List.set_cons_succ]
                        refine wpAnyH_take (i := 12) rfl (by kernel_rfl) (by kernel_rfl) (by kernel_rfl) (fun _ _ _ h => h) (Or.inr ⟨by rfl, rfl⟩) hHeld ?_
                        simp only [Act.put, List.getElem_toArray, List.getElem_cons_succ, List.getElem_cons_zero, List.setIfInBounds_toArray, List.set_cons_zero, List.set_cons_succ]
                        refine wpAnyH_take (i := 13) rfl (by kernel_rfl) (by kernel_rfl) (by kernel_rfl) (fun _ _ _ h => h) (Or.inr ⟨by rfl, rfl⟩) hHeld ?_
                        simp only [Act.put, List.getElem_toArray, List.getElem_cons_succ, List.getElem_cons_zero, List.setIfInBounds_toArray, List.set_cons_zero, List.set_cons_succ]
                        refine wpAnyH_take (i := 14) rfl (by kernel_rfl) (by kernel_rfl) (by kernel_rfl) (fun _ _ _ h => h) (Or.inr ⟨by rfl, rfl⟩) hHeld ?_
                        simp only [Act.put, List.getElem_toArray, List.getElem_cons_succ, List.getElem_cons_zero, List.setIfInBounds_toArray, List.set_cons_zero, List.set_cons_succ]
                        refine wpAnyH_take (i := 15) rfl (by kernel_rfl) (by kernel_rfl) (by kernel_rfl) (fun _ _ _ h => h) (Or.inr ⟨by rfl, rfl⟩) hHeld ?_
                        simp only [Act.put, List.getElem_toArray, List.getElem_cons_succ, List.getElem_cons_zero, List.setIfInBounds_toArray, List.set_cons_zero, List.set_cons_succ]
                        refine wpAnyH_take (i := 16) (v := ?_) rfl (by kernel_rfl) (by kernel_rfl) (by kernel_rfl) (fun _ _ _ h => h) (Or.inl ⟨by rfl, fun w0 hSw => ?_⟩) hHeld ?_
                        rotate_left
                        · (try dsimp only at hSw)
                          go_simp
                          try with_reducible rfl
                        simp only [Act.put, List.getElem_toArray, List.getElem_cons_succ, List.getElem_cons_zero, List.setIfInBounds_toArray, List.set_cons_zero, List.set_cons_succ]
                        refine wpAnyH_take (i := 17) (v := ?_) rfl (by kernel_rfl) (by kernel_rfl) (by kernel_rfl) (fun _ _ _ h => h) (Or.inl ⟨by rfl, fun w0 hSw => ?_⟩) hHeld ?_
                        rotate_left
                        · (try dsimp only at hSw)
                          go_simp
                          try with_reducible rfl
                        simp only [Act.put, List.getElem_toArray, List.getElem_cons_succ, List.getElem_cons_zero, List.setIfInBounds_toArray, List.set_cons_zero, List.set_cons_succ]
                        refine wpAnyH_done (by kernel_rfl) ?_ _
                        refine NoPanic.normal ?_
                        go_wp2_with fail
                        go_roundw
                        case rel => exact ⟨k + 1, true, by go_num, rfl, by omega, Ext.trans b1012 XE, HC⟩
                        case measure => simp [intOf] <;> omega
                      | false =>
                        have b13 := drew_ext w12
                        have XE := b13
                        refine wp_region_noPanic ?_
                        refine wp_region_held_drew (S := fun w' => (w'.cell? ⟨b, off + k * 6, none⟩ = some (x0) ∧ w'.cell? ⟨b, off + k * 6 + 1, none⟩ = some (x1) ∧ w'.cell? ⟨b, off + k * 6 + 2, none⟩ = some (x2) ∧ w'.cell? ⟨b, off + k * 6 + 3, none⟩ = some (x3) ∧ w'.cell? ⟨b, off + k * 6 + 4, none⟩ = some (x4) ∧ w'.cell? ⟨b, off + k * 6 + 5, none⟩ = some (x5)) ∧ (w'.cell? ⟨b', off' + k * 6, none⟩ = some (y0) ∧ w'.cell? ⟨b', off' + k * 6 + 1, none⟩ = some (y1) ∧ w'.cell? ⟨b', off' + k * 6 + 2, none⟩ = some (y2) ∧ w'.cell? ⟨b', off' + k * 6 + 3, none⟩ = some (y3) ∧ w'.cell? ⟨b', off' + k * 6 + 4, none⟩ = some (y4) ∧ w'.cell? ⟨b', off' + k * 6 + 5, none⟩ = some (y5)) ∧ (w'.cell? ⟨E, 0, none⟩ = some (.bool z4) ∧ w'.cell? ⟨E, 1, none⟩ = some (.slice d9 n9 e9) ∧ w'.cell? ⟨E, 2, none⟩ = some (.slice d10 n10 e10))) (by kernel_rfl) (⟨(CA.out.ext XE).c6, (CB.out.ext XE).c6, (GG.out.ext XE).c3⟩) (fun hHeld => ?_)
                        refine wpAnyH_take (i := 0) (v := ?_) rfl (by kernel_rfl) (by kernel_rfl) (by kernel_rfl) (fun _ _ _ h => h) (Or.inl ⟨by rfl, fun w0 hSw => ?_⟩) hHeld ?_
                        rotate_left
                        · (try dsimp only at hSw)
                          go_simp
                          try with_reducible rfl
                        simp only [Act.put, List.getElem_toArray, List.getElem_cons_succ, List.getElem_cons_zero, List.setIfInBounds_toArray, List.set_cons_zero, List.set_cons_succ]
                        refine wpAnyH_take (i := 1) (v := ?_) rfl (by kernel_rfl) (by kernel_rfl) (by kernel_rfl) (fun _ _ _ h => h) (Or.inl ⟨by rfl, fun w0 hSw => ?_⟩) hHeld ?_
                        rotate_left
                        · (try dsimp only at hSw)
                          go_simp
                          try with_reducible rfl
                        simp only [Act.put, List.getElem_toArray, List.getElem_cons_succ, List.getElem_cons_zero, List.setIfInBounds_toArray, List.set_cons_zero, List.set_cons_succ]
                        refine wpAnyH_take (i := 2) (v := ?_) rfl (by kernel_rfl) (by kernel_rfl) (by kernel_rfl) (fun _ _ _ h => h) (Or.inl ⟨by rfl, fun w0 hSw => ?_⟩) hHeld ?_
                        rotate_left
                        · (try dsimp only at hSw)
                          go_simp
                          try with_reducible rfl
                        simp only [Act.put, List.getElem_toArray, List.getElem_cons_succ, List.getElem_cons_zero, List.setIfInBounds_toArray, List.set_cons_zero, List.set_cons_succ]
                        refine wpAnyH_take (i := 3) (v := ?_) rfl (by kernel_rfl) (by kernel_rfl) (by kernel_rfl) (fun _ _ _ h => h) (Or.inl ⟨by rfl, fun w0 hSw => ?_⟩) hHeld ?_
                        rotate_left
                        · (try dsimp only at hSw)
                          go_simp
                          try with_reducible rfl
                        simp only [Act.put, List.getElem_toArray, List.getElem_cons_succ, List.getElem_cons_zero, List.setIfInBounds_toArray, List.set_cons_zero, List.set_cons_succ]
                        refine wpAnyH_take (i := 4) (v := ?_) rfl (by kernel_rfl) (by kernel_rfl) (by kernel_rfl) (fun _ _ _ h => h) (Or.inl ⟨by rfl, fun w0 hSw => ?_⟩) hHeld ?_
                        rotate_left
                        · (try dsimp only at hSw)
                          go_simp
                          try with_reducible rfl
                        simp only [Act.put, List.getElem_toArray, List.getElem_cons_succ, List.getElem_cons_zero, List.setIfInBounds_toArray, List.set_cons_zero, List.set_cons_succ]
                        refine wpAnyH_take (i := 5) (v := ?_) rfl (by kernel_rfl) (by kernel_rfl) (by kernel_rfl) (fun _ _ _ h => h) (Or.inl ⟨by rfl, fun w0 hSw => ?_⟩) hHeld ?_
                        rotate_left
                        · (try dsimp only at hSw)
                          go_simp
                          try with_reducible rfl
                        simp only [Act.put, List.getElem_toArray, List.getElem_cons_succ, List.getElem_cons_zero, List.setIfInBounds_toArray, List.set_cons_zero, List.set_cons_succ]
                        refine wpAnyH_take (i := 6) (v := ?_) rfl (by kernel_rfl) (by kernel_rfl) (by kernel_rfl) (fun _ _ _ h => h) (Or.inl ⟨by rfl, fun w0 hSw => ?_⟩) hHeld ?_
                        rotate_left
                        · (try dsimp only at hSw)
                          go_simp
                          try with_reducible rfl
                        simp only [Act.put, List.getElem_toArray, List.getElem_cons_succ, List.getElem_cons_zero, List.setIfInBounds_toArray, List.set_cons_zero, List.set_cons_succ]
                        refine wpAnyH_take (i := 8) (v := ?_) rfl (by kernel_rfl) (by kernel_rfl) (by kernel_rfl) (fun _ _ _ h => h) (Or.inl ⟨by rfl, fun w0 hSw => ?_⟩) hHeld ?_
                        rotate_left
                        · (try dsimp only at hSw)
                          go_simp
                          try with_reducible rfl
                        simp only [Act.put, List.getElem_toArray, List.getElem_cons_succ, List.getElem_cons_zero, List.setIfInBounds_toArray, List.set_cons_zero, List.set_cons_succ]
                        refine wpAnyH_take (i := 9) (v := ?_) rfl (by kernel_rfl) (by kernel_rfl) (by kernel_rfl) (fun _ _ _ h => h) (Or.inl ⟨by rfl, fun w0 hSw => ?_⟩) hHeld ?_
                        rotate_left
                        · (try dsimp only at hSw)
                          go_simp
                          try with_reducible rfl
                        simp only [Act.put, List.getElem_toArray, List.getElem_cons_succ, List.getElem_cons_zero, List.setIfInBounds_toArray, List.set_cons_zero, List.set_cons_succ]
                        refine wpAnyH_take (i := 10) (v := ?_) rfl (by kernel_rfl) (by kernel_rfl) (by kernel_rfl) (fun _ _ _ h => h) (Or.inl ⟨by rfl, fun w0 hSw => ?_⟩) hHeld ?_
                        rotate_left
                        · (try dsimp only at hSw)
                          go_simp
                          try with_reducible rfl
                        simp only [Act.put, List.getElem_toArray, List.getElem_cons_succ, List.getElem_cons_zero, List.setIfInBounds_toArray, List.set_cons_zero, List.set_cons_succ]
                        refine wpAnyH_take (i := 11) (v := ?_) rfl (by kernel_rfl) (by kernel_rfl) (by kernel_rfl) (fun _ _ _ h => h) (Or.inl ⟨by rfl, fun w0 hSw => ?_⟩) hHeld ?_
                        rotate_left
                        · (try dsimp only at hSw)
                          go_simp
                          try with_reducible rfl
                        simp only [Act.put, List.getElem_toArray, List.getElem_cons_succ, List.getElem_cons_zero, List.setIfInBounds_toArray, List.set_cons_zero, List.set_cons_succ]
                        refine wpAnyH_take (i := 12) (v := ?_) rfl (by kernel_rfl) (by kernel_rfl) (by kernel_rfl) (fun _ _ _ h => h) (Or.inl ⟨by rfl, fun w0 hSw => ?_⟩) hHeld ?_
                        rotate_left
                        · (try dsimp only at hSw)
                          go_simp
                          try with_reducible rfl
                        simp only [Act.put, List.getElem_toArray, List.getElem_cons_succ, List.getElem_cons_zero, List.setIfInBounds_toArray, List.set_cons_zero, List.set_cons_succ]
                        refine wpAnyH_ready (rs := [7]) (by kernel_rfl) (by simp) ?_
                        refine AllReadyH.cons (o := _) rfl (fun K hK => ?_) AllReadyH.nil
                        go_simp
                        go_at_call 29; refine (N3.out _ _ _ (DA.out.ext XE) (LG.out.ext XE)).mono ?_; rintro e w14 ⟨v14, rfl, b14, o14⟩; have O14 := Lib.hid o14; clear o14; (first | have XE := Ext.trans XE b14 | have XE := Ext.trans (Ext.trans XE (Ext.alloc _ _)) b14)
                        go_wp2_with fail
                        refine hK.out _ _ (⟨(CA.out.ext XE).c6, (CB.out.ext XE).c6, (GG.out.ext XE).c3⟩) (fun hHeld => ?_)
                        clear hK K
                        try simp only [Act.put, List.getElem_toArray, List.getElem_cons_succ, List.getElem_cons_zero, List.setIfInBounds_toArray, List.set_cons_zero, List.set_cons_succ]
                        refine wpAnyH_ready (rs := [13]) (by kernel_rfl) (by simp) ?_
                        refine AllReadyH.cons (o := _) rfl (fun K hK => ?_) AllReadyH.nil
                        go_simp
                        go_at_call 29; refine (O3.out _ _ _ (DB.out.ext XE) (LG.out.ext XE)).mono ?_; rintro e w15 ⟨v15, rfl, b15, o15⟩; have O15 := Lib.hid o15; clear o15; (first | have XE := Ext.trans XE b15 | have XE := Ext.trans (Ext.trans XE (Ext.alloc _ _)) b15)
                        go_wp2_with fail
                        refine hK.out _ _ (⟨(CA.out.ext XE).c6, (CB.out.ext XE).c6, (GG.out.ext XE).c3⟩) (fun hHeld => ?_)
                        clear hK K
                        try simp only [Act.put, List.getElem_toArray, List.getElem_cons_succ, List.getElem_cons_zero, List.setIfInBounds_toArray, List.set_cons_zero, List.set_cons_succ]
                        refine wpAnyH_ready (rs := [14]) (by kernel_rfl) (by simp) ?_
                        refine AllReadyH.cons (o := _) rfl (fun K hK => ?_) AllReadyH.nil
                        go_simp
                        go_at_call 46; refine (M3.out _ _ _ (O14.out.rd.ext b15) O15.out.rd).mono ?_; rintro e w16 ⟨_, rfl, b16, rfl⟩; (first | have XE := Ext.trans XE b16 | have XE := Ext.trans (Ext.trans XE (Ext.alloc _ _)) b16)
                        go_wp2_with fail
                        refine hK.out _ _ (⟨(CA.out.ext XE).c6, (CB.out.ext XE).c6, (GG.out.ext XE).c3⟩) (fun hHeld => ?_)
                        clear hK K
                        try simp only [Act.put, List.getElem_toArray, List.getElem_cons_succ, List.getElem_cons_zero, List.setIfInBounds_toArray, List.set_cons_zero, List.set_cons_succ]
                        refine wpAnyH_take (i := 15) (v := ?_) rfl (by kernel_rfl) (by kernel_rfl) (by kernel_rfl) (fun _ _ _ h => h) (Or.inl ⟨by rfl, fun w0 hSw => ?_⟩) hHeld ?_
                        rotate_left
                        · (try dsimp only at hSw)
                          go_simp
                          try with_reducible rfl
                        simp only [Act.put, List.getElem_toArray, List.getElem_cons_succ, List.getElem_cons_zero, List.setIfInBounds_toArray, List.set_cons_zero, List.set_cons_succ]
                        refine wpAnyH_take (i := 16) (v := ?_) rfl (by kernel_rfl) (by kernel_rfl) (by kernel_rfl) (fun _ _ _ h => h) (Or.inl ⟨by rfl, fun w0 hSw => ?_⟩) hHeld ?_
                        rotate_left
                        · (try dsimp only at hSw)
                          go_simp
                          try with_reducible rfl
                        simp only [Act.put, List.getElem_toArray, List.getElem_cons_succ, List.getElem_cons_zero, List.setIfInBounds_toArray, List.set_cons_zero, List.set_cons_succ]
                        refine wpAnyH_take (i := 17) (v := ?_) rfl (by kernel_rfl) (by kernel_rfl) (by kernel_rfl) (fun _ _ _ h => h) (Or.inl ⟨by rfl, fun w0 hSw => ?_⟩) hHeld ?_
                        rotate_left
                        · (try dsimp only at hSw)
                          go_simp
                          try with_reducible rfl
                        simp only [Act.put, List.getElem_toArray, List.getElem_cons_succ, List.getElem_cons_zero, List.setIfInBounds_toArray, List.set_cons_zero, List.set_cons_succ]
                        refine wpAnyH_done (by kernel_rfl) ?_ _
                        refine NoPanic.normal ?_
                        go_wp2_with fail
                        go_roundw
                        case rel => exact ⟨k + 1, decide (0 < t3), by go_num, rfl, by omega, Ext.trans b1012 XE, HC⟩
                        case measure => simp [intOf] <;> omega
                · obtain rfl : k = A.length := by omega
                  have hbr : br = true := by
                    have := hC.out
                    rw [List.drop_eq_nil_of_le (by rw [HLZ.out]; exact Nat.le_refl _)] at this
                    exact this
                  subst hbr
                  have G4 := Lib.hid (F4.out.ext b11)
                  have LM := Lib.hid (QM.out.ext b11)
                  have HX := Lib.hid (Ext.trans b1 (Ext.trans b2 (Ext.trans b3 (Ext.trans b4 (Ext.trans b5 (Ext.trans b6 (Ext.trans b7 (Ext.trans b8 (Ext.trans b9 (Ext.trans b10 b11))))))))))
                  have hmp := HMP.out
                  generalize m.num.sign = ms at *
                  go_wp2_with fail
                  refine awake07.mono ?_
                  rintro e w12 ⟨_, rfl, b12, rfl⟩
                  obtain ⟨k0, k1, k2⟩ := (G4.out.ext b12).c3
                  go_wp2_with fail
                  clear k0 k1 k2
                  refine (HSM.out _ _ (LM.out.ext b12)).mono ?_
                  rintro e w13 ⟨_, rfl, b13, rfl⟩
                  go_wp2_with fail
                  exact hR.out _ _ (Gives.mk (Ext.trans HX.out (Ext.trans b12 b13)) rfl)
theorem own : ownKnob Try.prog.godebug = none := by kernel_rfl
theorem laidOut : laidOutB Try.prog = true := by kernel_rfl

set_option maxRecDepth 100000 in
theorem contract (H : Type) (enc : TypeId × Value → H) (W : World) (base : Nat) (args : Array Value) (ds gs : List (DataW H)) (before : List MemPlace)
    (hval : ∀ (j : Nat) t v, Try.f8.params[j]? = some t → args[j]? = some v → Value.okWide Try.prog W .any base t v)
    (hW : DataW.Whole enc Try.prog Try.f8.params.toList Rows.deltaHoldsSpec.vars false W args.toList ds gs before) (hk : Rows.uptoSmall H (ds ++ gs) = true) :
    Calls Try.prog 8 args W fun e W' => ∃ v, e = .returned v ∧ Rows.deltaHoldsSpec.post enc Try.prog Try.f8 false true false false W args v W' := by
  have hW' := hW
  obtain ⟨p, q, hA0, hV, rfl, hfz, hnd⟩ := hW
  have hA : DataW.TrodAll enc Try.prog W 0 (fun _ => true) true Try.f8.params.toList args.toList ds p := hA0
  rw [Try.params8] at hA hval
  obtain ⟨v0, vs0, d0, ds0, p0, q0, hargs, rfl, rfl, h0, r0⟩ := trodAll_cons hA
  obtain ⟨v1, vs1, d1, ds1, p1, q1, rfl, rfl, rfl, h1, r1⟩ := trodAll_cons r0
  obtain ⟨v2, vs2, d2, ds2, p2, q2, rfl, rfl, rfl, h2, r2⟩ := trodAll_cons r1
  obtain ⟨rfl, rfl, rfl⟩ := trodAll_nil r2
  obtain rfl : args = #[v0, v1, v2] := by cases args; simp_all
  obtain ⟨rfl, rfl⟩ := trodVars_none hV
  have hb := bulk_small hk
  simp only [List.append_nil, bulk_cons, bulk_nil] at hb
  have k0 := h0
  have lt0 : ∀ x ∈ p0, x.block < W.heap.size := by obtain ⟨m, hm⟩ := k0; exact DataW.trod_lt m _ _ _ hm
  obtain ⟨l0, rd0, bd0, len0⟩ := open_rowND Try.underlying95 Try.underlying26 rfl rfl rfl rfl (by kernel_rfl) (hval 0 95 v0 rfl rfl) h0
  have k1 := h1
  have lt1 : ∀ x ∈ p1, x.block < W.heap.size := by obtain ⟨m, hm⟩ := k1; exact DataW.trod_lt m _ _ _ hm
  obtain ⟨l1, rd1, bd1, len1⟩ := open_rowND Try.underlying95 Try.underlying26 rfl rfl rfl rfl (by kernel_rfl) (hval 1 95 v1 rfl rfl) h1
  have k2 := h2
  have lt2 : ∀ x ∈ p2, x.block < W.heap.size := by obtain ⟨m, hm⟩ := k2; exact DataW.trod_lt m _ _ _ hm
  obtain ⟨s2, x2, y2, rd2, len2⟩ := open_N (hval 2 24 v2 rfl rfl) h2
  clear hA0
  refine (walk rd0 (fun p hp => by have := bd0 p hp; omega) (by omega) rd1 (fun p hp => by have := bd1 p hp; omega) (by omega) rd2 (by omega) (by omega)).mono fun e W' ⟨v, he, bel, hv⟩ => ?_
  subst he hv
  exact ⟨_, rfl, _, _, _, [], _, [], hW', trodAll_mk1 (shut_bool Try.underlying4 _), (trodAll_cons_mk (Below.trod laidOut (by kernel_rfl) (of_decide_eq_true (by kernel_rfl)) k0 bel lt0) (trodAll_cons_mk (Below.trod laidOut (by kernel_rfl) (of_decide_eq_true (by kernel_rfl)) k1 bel lt1) (trodAll_cons_mk (Below.trod laidOut (by kernel_rfl) (of_decide_eq_true (by kernel_rfl)) k2 bel lt2) trodAll_mk0))), rfl, bel.frame _, fun h => by cases h⟩

set_option maxRecDepth 100000 in
theorem lifted (os : Os) (started : os.Started) (H : Type) (enc : TypeId × Value → H) (F : Stop.Interp) :
    ReturnsInHanded {} Try.checked os 8 .any ((Rows.OpenSpec.upto Rows.deltaHoldsSpec).pre6 enc Try.prog Try.f8 Rows.deltaHoldsUptoRow.domain false) (((Rows.OpenSpec.upto Rows.deltaHoldsSpec).at F).post enc Try.prog Try.f8 false true false false) := by
  refine returnsInHanded_of_cond (C := Try.checked) (s := Rows.OpenSpec.upto Rows.deltaHoldsSpec) (k := Rows.uptoSmall) rfl own started (by kernel_rfl) Try.func8
    (OpenSpec.witness (enc := enc) (C := Try.checked) (s := Rows.OpenSpec.upto Rows.deltaHoldsSpec) (k := Rows.uptoSmall) rfl false ⟨#[], #[.slice none 0 0, .slice none 0 0, .agg #[.bool false, .slice none 0 0, .slice none 0 0]], []⟩ 8 (by kernel_rfl) (by kernel_rfl) (by kernel_rfl)
      (x := ([.nil, .nil, .agg [.lit (.bool false), .nil, .nil]], [], [])) (by kernel_rfl) rfl (by kernel_rfl)) ?_
  intro W base args ds gs before hval hW _ hk _
  exact contract H enc W base args ds gs before hval hW hk

theorem proved : Rows.DeltaHoldsUptoSaid :=
  OpenClaim.holds_of_cond 8 Try.f8 rfl rfl rfl rfl rfl rfl rfl ⟨rfl, rfl, rfl, rfl, rfl⟩ rfl rfl rfl rfl rfl (by kernel_rfl) Try.func8 (by kernel_rfl)
    (of_decide_eq_true (by kernel_rfl)) (by unfold Func.isWrapper; first | (rw [if_pos (by decide +kernel)]; kernel_rfl) | (rw [if_neg (by decide +kernel)]; exact ⟨rfl, rfl⟩))
    (fun os started H enc _ F => lifted os started H enc F)
#print axioms proved

end Go.Proofs.Ytpeeacdnjbcmiaa.deltaHolds
