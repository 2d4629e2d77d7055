/- attestref08.Eval, attestlaw08.Point -/
import Derived.Test.YtnbbhpihlcglgaaEvL
import Derived.Test.YtnbbhpihlcglgaaLinP
import Derived.Test.YtnbbhpihlcglgaaRef5All
import Derived.Test.YtnbbhpihlcglgaaPNums
import Derived.Test.YtnbbhpihlcglgaaPR8Means
namespace Go.Proofs.Ytnbbhpihlcglgaa
open Go.RowKit Go.Att

set_option linter.unusedSimpArgs false in
set_option maxHeartbeats 4000000 in
set_option maxRecDepth 100000 in
theorem r8eval_any {w : World} {v vp : Value} {l : TL} {c : Rat} {P : List Rat} (K M N : Nat) (hv : RdY w v l c) (hok : Okx K l c) (hp : RdRow 3 (OwnPp 4) w vp P) (hP : ∀ p ∈ P, Sz M p) (hL : P.length ≤ N) (hN : N * (K + M + 1) + K ≤ 1500) (hK : K + M ≤ 1500) (hM : M ≤ 1500) :
    Calls Try.prog 53 #[v, vp] w (Gives w fun v' w' => OwnP 4 0 w' v' (c + smv (cf l) P 0)) := by
  refine via fun R hR => ?_
  have HSM : Hid (∀ i, i < P.length → Sz M (gt P i)) := fun i hi => hP _ (gt_mem' hi)
  have HSX : Hid (∀ x, Sz K (cf l x)) := hok.cf
  have HSZ : Hid (∀ j, j ≤ P.length → Sz 1500 (c + smv (cf l) (P.take j) 0)) := fun j hj => (smv_sz c hok.2.2.2 hok.cf hP j hj).le (by
    have := Nat.mul_le_mul_right (K + M + 1) (Nat.le_trans hj hL)
    omega)
  have HCO : Hid (∀ w' x, Ext w w' → Calls Try.prog 35 #[v, .int .i64 x] w' (Gives w' fun v' w' => OwnP 4 0 w' v' (cf l x))) := fun w' x y => r8coef_any (x := x) K (hv.ext y) hok.2.1 (hok.2.2.1 x) hok.1 (by omega)
  obtain ⟨a, k, s, b, m, d, b', m', d', rfl, hlk, hkm, HRW, HRC⟩ := hv.op
  obtain ⟨ap, kp, rfl, hpk, hpm⟩ := hp.shape
  unfold maxLen at hpm
  have HP := Lib.hid hp
  clear hv hP hp hok HRW
  obtain ⟨w1, hw1, b1, c1, c2, r1, r2, z1⟩ := bx2 w [.slice a l.length k, .bool s, .slice b m d, .slice b' m' d'] [.bool false, .slice none 0 0, .slice none 0 0] 69 46
  have HW := Lib.hid hw1
  have C1 := Lib.hid c1
  have R2 : Hid (Rt w1 (w.heap.size + 1) 3 46) := by
    show Rt _ _ _ _
    rw [hw1]
    have := Rt.new (w.alloc (.cells #[.slice a l.length k, .bool s, .slice b m d, .slice b' m' d'] 69)) [.bool false, .slice none 0 0, .slice none 0 0] 46
    simpa using this
  clear c1 c2 r1 r2 hw1 z1
  go_enter Try.func53, Try.ntmps53
  go_upto_region 1 with (fail)
  rw [← HW.out]
  clear HW
  obtain ⟨w2, hw2, b2, hC2, -⟩ : ∃ W, W = w1.alloc (.cells #[.bool s, .slice b m d, .slice b' m' d'] 46) ∧ Ext w1 W ∧ Bp 4 46 W w1.heap.size c ∧ W.heap.size = w1.heap.size + 1 := ⟨_, rfl, Ext.alloc _ _, Bp.new ((HRC.out).ext b1), by simp⟩
  have HW := Lib.hid hw2
  clear hw2
  obtain ⟨k0, k1, k2, k3⟩ := C1.out.c4
  go_upto_region 2 with (fail)
  rw [← HW.out]
  clear HW k0 k1 k2 k3
  go_wp2_with fail
  go_loopw [11] (fun t wr => ∃ j : Nat, t = .int .i64 j ∧ j ≤ P.length ∧ Ext w1 wr ∧ Hid (Bp 4 46 wr w1.heap.size (c + smv (cf l) (P.take j) 0))) (fun t _ => P.length - (intOf t).toNat)
  case atStart => exact ⟨0, rfl, Nat.zero_le _, b2, by
    rw [List.take_zero]
    show Hid (Bp _ _ _ _ (c + 0))
    rw [Rat.add_zero]
    exact hC2⟩
  case round =>
    clear hC2
    obtain ⟨j, rfl, hj, hx, hC⟩ := hrel
    by_cases hjl : j < P.length
    · have hd : decide ((j : Int) < (P.length : Int)) = true := decide_eq_true (by omega)
      have hJ1 : IntKind.i64.wrap (j : Int) = (j : Int) := by rw [IntKind.wrap_i64]; omega
      have hJ2 : (0 : Int) ≤ (j : Int) ∧ (j : Int) < (P.length : Int) := ⟨by omega, by omega⟩
      have HSN := Lib.hid (smv_take (cf l) hjl)
      have HZJ := Lib.hid (HSZ.out j hj)
      have HSJ := Lib.hid (HSM.out j hjl)
      have HSY := Lib.hid (HSX.out j)
      have HCJ := Lib.hid (fun w' y => HCO.out w' (j : Int) y)
      obtain ⟨w4, hw4⟩ : ∃ w0 : World, w0 = wr := ⟨_, rfl⟩
      subst hw4
      have b04 := Ext.trans b1 hx
      obtain ⟨bP, oP, sp, xp, kp', mp, yp, k2', m2', hae, hbo, hqp⟩ := HP.out.op' j hjl
      subst hae
      have CP := Lib.hid (hbo.ext b04)
      have HQP := Lib.hid (hqp.ext b04)
      have D1 := Lib.hid (C1.out.ext hx)
      clear hbo hqp
      generalize gt P j = pv at *
      generalize smv (cf l) (P.take j) 0 = sj at *
      generalize cf l (j : Int) = fj at *
      go_upto_region 5 with (fail)
      obtain ⟨s0, e1, n1, g1, e2, n2, g2, T1, T2, T3⟩ := hC.out.op
      have b5 := drew_ext w4
      have XE := b5
      refine wp_region_noPanic ?_
      refine wp_region_last_drew (st := 10) (S := fun w' => (w'.cell? ⟨w1.heap.size, 0, none⟩ = some (.bool s0) ∧ w'.cell? ⟨w1.heap.size, 1, none⟩ = some (.slice e1 n1 g1) ∧ w'.cell? ⟨w1.heap.size, 2, none⟩ = some (.slice e2 n2 g2)) ∧ (w'.cell? ⟨w.heap.size, 0, none⟩ = some (.slice a l.length k) ∧ w'.cell? ⟨w.heap.size, 1, none⟩ = some (.bool s) ∧ w'.cell? ⟨w.heap.size, 2, none⟩ = some (.slice b m d) ∧ w'.cell? ⟨w.heap.size, 3, none⟩ = some (.slice b' m' d')) ∧ (w'.cell? ⟨bP, oP + j * 3, none⟩ = some (.bool sp) ∧ w'.cell? ⟨bP, oP + j * 3 + 1, none⟩ = some (.slice xp kp' mp) ∧ w'.cell? ⟨bP, oP + j * 3 + 2, none⟩ = some (.slice yp k2' m2'))) (by kernel_rfl) (⟨(T1.out.ext XE).c3, (D1.out.ext XE).c4, (CP.out.ext XE).c3⟩) (fun hHeld => ?_)
      refine wpAnyL_take (i := 0) (v := ?_) rfl (by kernel_rfl) (by kernel_rfl) (by kernel_rfl) (by kernel_rfl) (fun _ _ _ h => h) (Or.inl ⟨by rfl, fun w0 hSw => ?_⟩) hHeld ?_
      rotate_left
      · (try dsimp only at hSw)
        go_simp
        try with_reducible rfl
      simp only [Act.put, List.getElem_toArray, List.getElem_cons_succ, List.getElem_cons_zero, List.setIfInBounds_toArray, List.set_cons_zero, List.set_cons_succ]
      refine wpAnyL_take (i := 1) (v := ?_) rfl (by kernel_rfl) (by kernel_rfl) (by kernel_rfl) (by kernel_rfl) (fun _ _ _ h => h) (Or.inl ⟨by rfl, fun w0 hSw => ?_⟩) hHeld ?_
      rotate_left
      · (try dsimp only at hSw)
        go_simp
        try with_reducible rfl
      simp only [Act.put, List.getElem_toArray, List.getElem_cons_succ, List.getElem_cons_zero, List.setIfInBounds_toArray, List.set_cons_zero, List.set_cons_succ]
      refine wpAnyL_take (i := 2) (v := ?_) rfl (by kernel_rfl) (by kernel_rfl) (by kernel_rfl) (by kernel_rfl) (fun _ _ _ h => h) (Or.inl ⟨by rfl, fun w0 hSw => ?_⟩) hHeld ?_
      rotate_left
      · (try dsimp only at hSw)
        go_simp
        try with_reducible rfl
      simp only [Act.put, List.getElem_toArray, List.getElem_cons_succ, List.getElem_cons_zero, List.setIfInBounds_toArray, List.set_cons_zero, List.set_cons_succ]
      refine wpAnyL_take (i := 4) (v := ?_) rfl (by kernel_rfl) (by kernel_rfl) (by kernel_rfl) (by kernel_rfl) (fun _ _ _ h => h) (Or.inl ⟨by rfl, fun w0 hSw => ?_⟩) hHeld ?_
      rotate_left
      · (try dsimp only at hSw)
        go_simp
        try with_reducible rfl
      simp only [Act.put, List.getElem_toArray, List.getElem_cons_succ, List.getElem_cons_zero, List.setIfInBounds_toArray, List.set_cons_zero, List.set_cons_succ]
      refine wpAnyL_take (i := 5) (v := ?_) rfl (by kernel_rfl) (by kernel_rfl) (by kernel_rfl) (by kernel_rfl) (fun _ _ _ h => h) (Or.inl ⟨by rfl, fun w0 hSw => ?_⟩) hHeld ?_
      rotate_left
      · (try dsimp only at hSw)
        go_simp
        try with_reducible rfl
      simp only [Act.put, List.getElem_toArray, List.getElem_cons_succ, List.getElem_cons_zero, List.setIfInBounds_toArray, List.set_cons_zero, List.set_cons_succ]
      refine wpAnyL_take (i := 6) (v := ?_) rfl (by kernel_rfl) (by kernel_rfl) (by kernel_rfl) (by kernel_rfl) (fun _ _ _ h => h) (Or.inl ⟨by rfl, fun w0 hSw => ?_⟩) hHeld ?_
      rotate_left
      · (try dsimp only at hSw)
        go_simp
        try with_reducible rfl
      simp only [Act.put, List.getElem_toArray, List.getElem_cons_succ, List.getElem_cons_zero, List.setIfInBounds_toArray, List.set_cons_zero, List.set_cons_succ]
      refine wpAnyL_take (i := 7) (v := ?_) rfl (by kernel_rfl) (by kernel_rfl) (by kernel_rfl) (by kernel_rfl) (fun _ _ _ h => h) (Or.inl ⟨by rfl, fun w0 hSw => ?_⟩) hHeld ?_
      rotate_left
      · (try dsimp only at hSw)
        go_simp
        try with_reducible rfl
      simp only [Act.put, List.getElem_toArray, List.getElem_cons_succ, List.getElem_cons_zero, List.setIfInBounds_toArray, List.set_cons_zero, List.set_cons_succ]
      refine wpAnyL_ready (rs := [3]) (by kernel_rfl) (by simp) ?_
      refine AllReadyL.cons (o := _) rfl (fun K hK => ?_) AllReadyL.nil
      go_simp
      go_at_call 35; refine (HCJ.out _ (Ext.trans b04 XE)).mono ?_; rintro e w6 ⟨v6, rfl, b6, o6⟩; have O6 := Lib.hid o6; clear o6; (first | have XE := Ext.trans XE b6 | have XE := Ext.trans (Ext.trans XE (Ext.alloc _ _)) b6)
      go_wp2_with fail
      refine hK.out _ _ (⟨(T1.out.ext XE).c3, (D1.out.ext XE).c4, (CP.out.ext XE).c3⟩) (fun hHeld => ?_)
      clear hK K
      try simp only [Act.put, List.getElem_toArray, List.getElem_cons_succ, List.getElem_cons_zero, List.setIfInBounds_toArray, List.set_cons_zero, List.set_cons_succ]
      refine wpAnyL_ready (rs := [8]) (by kernel_rfl) (by simp) ?_
      refine AllReadyL.cons (o := _) rfl (fun K hK => ?_) AllReadyL.nil
      go_simp
      go_at_call 100; refine (r5mul_any O6.out.rd (HQP.out.rd.ext XE) (HSY.out.bits.le (by omega)) (HSJ.out.bits.le (by omega))).mono ?_; rintro e w7 ⟨v7, rfl, b7, o7⟩; have O7 := Lib.hid o7; clear o7; (first | have XE := Ext.trans XE b7 | have XE := Ext.trans (Ext.trans XE (Ext.alloc _ _)) b7)
      go_wp2_with fail
      refine hK.out _ _ (⟨(T1.out.ext XE).c3, (D1.out.ext XE).c4, (CP.out.ext XE).c3⟩) (fun hHeld => ?_)
      clear hK K
      try simp only [Act.put, List.getElem_toArray, List.getElem_cons_succ, List.getElem_cons_zero, List.setIfInBounds_toArray, List.set_cons_zero, List.set_cons_succ]
      refine wpAnyL_ready (rs := [9]) (by kernel_rfl) (by simp) ?_
      refine AllReadyL.cons (o := _) rfl (fun K hK => ?_) AllReadyL.nil
      go_simp
      go_at_call 85; refine (r5add_any (T3.out.rd.ext XE) O7.out.rd (HZJ.out.bits.le (by omega)) ((HSY.out.mul HSJ.out).bits.le (by omega))).mono ?_; rintro e w8 ⟨v8, rfl, b8, o8⟩; have O8 := Lib.hid o8; clear o8; (first | have XE := Ext.trans XE b8 | have XE := Ext.trans (Ext.trans XE (Ext.alloc _ _)) b8); obtain ⟨_, _, _, _, _, _, _, rfl, P8⟩ := O8.out.op
      go_wp2_with fail
      refine hK.out _ _ (⟨(T1.out.ext XE).c3, (D1.out.ext XE).c4, (CP.out.ext XE).c3⟩) (fun hHeld => ?_)
      clear hK K
      try simp only [Act.put, List.getElem_toArray, List.getElem_cons_succ, List.getElem_cons_zero, List.setIfInBounds_toArray, List.set_cons_zero, List.set_cons_succ]
      obtain ⟨_, _, _, j0, j1, j2, i0, i1, i2⟩ := (T2.out.ext XE).rm.c3
      refine wpAnyL_ready (rs := [10]) (by kernel_rfl) (by simp) ?_
      refine AllReadyL.last (o := _) rfl (fun K hK => ?_)
      go_simp
      refine hK.out _ _ ?_
      clear hK K
      try simp only [Act.put, List.getElem_toArray, List.getElem_cons_succ, List.getElem_cons_zero, List.setIfInBounds_toArray, List.set_cons_zero, List.set_cons_succ]
      refine wpAnyL_done (by kernel_rfl) ?_ _
      refine NoPanic.normal ?_
      go_wp2_with fail
      go_roundw
      case rel => exact ⟨j + 1, by go_num, by omega, put3_below (Ext.trans hx XE) (Nat.le_refl _) _ _ _, by
        rw [HSN.out, ← Rat.add_assoc]
        exact Bp.set (T2.out.ext XE) (by decide) (P8.out.mono (Nat.zero_le _))⟩
      case measure => simp [intOf] <;> omega
    · obtain rfl : j = P.length := by omega
      have hd : decide ((P.length : Int) < (P.length : Int)) = false := decide_eq_false (by omega)
      rw [List.take_length] at hC
      obtain ⟨s0, e1, n1, g1, e2, n2, g2, T1, T2, T3⟩ := hC.out.op
      obtain ⟨k0, k1, k2⟩ := T1.out.c3
      have RR := Lib.hid (R2.out.ext hx)
      obtain ⟨_, _, _, j0, j1, j2, i0, i1, i2⟩ := RR.out.rm.c3
      go_wp2_with fail
      refine bodyPost_ret (v := .agg #[.bool s0, .slice e1 n1 g1, .slice e2 n2 g2]) (by simp [results, Try.results53, go_sem, j0, j1, j2]) rfl ?_
      exact hR.out _ _ (Gives.mk (put3_below (Ext.trans b1 hx) (Nat.le_succ _) _ _ _) (T3.out.putT RR.out (by decide) 0 [_, _, _]))
set_option maxRecDepth 100000 in
set_option maxHeartbeats 2000000 in
set_option linter.unusedSimpArgs false in
theorem point_any {w : World} {v : Value} {l : List NN} (hv : RdRow 3 RdNp w v l) (hs : ∀ p ∈ l, Nlt 1000000000 p) :
    Calls Try.prog 51 #[v] w (Gives w fun v' w' => OwnRow 3 (OwnQp 163) 32 w.heap.size w' v' ((l.take 6).map qN)) := by
  refine via fun R hR => ?_
  have HS := Lib.hid hs
  obtain ⟨a, c, rfl, hlc, hcm⟩ := hv.shape
  have HV := Lib.hid hv
  unfold maxLen at hcm
  clear hv hs
  go_enter Try.func51, Try.ntmps51
  go_wp2_with fail
  go_loopw [3, 4] (fun o i wr => ∃ k : Nat, i = .int .i64 k ∧ k ≤ l.length ∧ k ≤ 6 ∧ Ext w wr ∧ Hid (OwnRow 3 (OwnQp 163) 32 w.heap.size wr o ((l.take k).map qN))) (fun _ i _ => 6 - (intOf i).toNat)
  case atStart => exact ⟨0, rfl, Nat.zero_le _, Nat.zero_le _, Ext.alloc _ _, by rw [List.take_zero]; exact OwnRow.nilLit _ (Nat.le_refl _)⟩
  case round =>
    obtain ⟨k, rfl, hk, hk2, hx, hO⟩ := hrel
    have hsz := hx.size
    by_cases hlt : k < l.length
    · by_cases h34 : k < 6
      · obtain ⟨b, off, cs, rfl, hcl, hT, hc⟩ := HV.out.at (by decide) k hlt
        obtain ⟨y, z, rfl⟩ := cells_N hT
        have e0 := Ext.cell hx (hc 0 (by decide))
        have e1 := Ext.cell hx (hc 1 (by decide))
        have e2 := Ext.cell hx (hc 2 (by decide))
        have HSN := Lib.hid (take_map_snoc qN hlt)
        have HTT := Lib.hid (RdNp.ext hT hx)
        have HSS := Lib.hid (HS.out l[k] (List.getElem_mem hlt))
        simp only [List.getElem?_cons_zero, List.getElem?_cons_succ, Nat.add_zero] at e0 e1 e2
        generalize l[k] = p at *
        have HKL : Hid (((l.take k).map qN).length ≤ 6) := by show _ ≤ _; simp; omega
        clear hT hc
        go_wp2_with fail
        refine (of8_any HTT.out HSS.out.1 HSS.out.2).mono ?_
        rintro e w1 ⟨_, rfl, b1, o1⟩
        clear e0 e1 e2
        obtain ⟨s1, a1, l1, c1, a1', l1', c1', rfl, O1⟩ := o1.op
        have hO1 := Lib.hid (hO.out.ext OwnQ.ext b1)
        have b01 := hx.trans b1
        clear o1
        go_wp2_with (at_builtin; refine append_rowL (y := qN p) etRats (kdQ (e := 163) (by decide)) (by rfl) _ _ (by rfl) w.heap.size (by rfl) _ (by rfl) hO1.out rfl (O1.out.mono (Nat.zero_le _)) (Below.size b01) (by have := HKL.out; omega) (by unfold maxLen; have := HKL.out; omega) ?_; intro v9 w9 o9 b9 g9)
        go_roundw
        case rel =>
          refine ⟨k + 1, by go_num, by omega, by omega, Below.trans b01 b9, ?_⟩
          rw [HSN.out]
          exact o9
        case measure => simp [intOf] <;> omega
      · obtain rfl : k = 6 := by omega
        go_wp2_with fail
        exact hR.out _ _ (Gives.mk hx hO.out)
    · obtain rfl : k = l.length := by omega
      have HX : Hid ((l.take l.length).map qN = (l.take 6).map qN) := by show _ = _; rw [List.take_length, List.take_of_length_le hk2]
      go_wp2_with fail
      exact hR.out _ _ (Gives.mk hx (by rw [← HX.out]; exact hO.out))
end Go.Proofs.Ytnbbhpihlcglgaa
