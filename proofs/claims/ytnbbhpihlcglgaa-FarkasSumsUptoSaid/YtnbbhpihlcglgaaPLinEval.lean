/- lin.Eval, attestref08.Eval -/
import Derived.Test.YtnbbhpihlcglgaaEvL
import Derived.Test.YtnbbhpihlcglgaaLinAll
import Derived.Test.YtnbbhpihlcglgaaRatAll
import Derived.Test.YtnbbhpihlcglgaaPR8Coef
import Derived.Test.YtnbbhpihlcglgaaRef5All
namespace Go.Proofs.Ytnbbhpihlcglgaa
open Go.RowKit Go.Att

set_option linter.unusedSimpArgs false in
set_option maxHeartbeats 4000000 in
set_option maxRecDepth 100000 in
theorem leval_any {w : World} {v vp : Value} {l : TL} {c : Rat} {P : List Rat} (L M : Nat) (hv : RdX w v l c) (hp : RdRow 3 (OwnQp 163) w vp P) (hs : ∀ t ∈ l, Sz L t.2) (hsc : Sz L c) (hP : ∀ p ∈ P, Sz M p) (hl : l.length ≤ 1000) (hL : L + M ≤ 5000) :
    Calls Try.prog 52 #[v, vp] w (Gives w fun v' w' => OwnQ 163 0 w' v' (c + tv P l)) := by
  refine via fun R hR => ?_
  have HS := Lib.hid hs
  have HSP : Hid (∀ t ∈ l, 0 ≤ t.1 → t.1 < P.length → Sz M (gt P t.1.toNat)) := fun t _ h1 h2 => hP _ (gt_mem' (by omega))
  have hbig : l.length * (L + M + 2) + L ≤ 10000000 := by
    have := Nat.mul_le_mul hl (show L + M + 2 ≤ 5002 by omega)
    omega
  have HSZ : Hid (∀ j, j ≤ l.length → Sz 10000000 (c + tv P (l.take j))) := fun j hj => (tv_sz c hsc hs hP j hj).le (by
    have := Nat.mul_le_mul_right (L + M + 2) hj
    omega)
  obtain ⟨a, k, s, b, m, d, b', m', d', rfl, hlk, hkm, HRW, HRC⟩ := hv.op
  obtain ⟨ap, kp, rfl, hpk, hpm⟩ := hp.shape
  have HP := Lib.hid hp
  clear hv hs hsc hP hp
  obtain ⟨w1, hw1, b1, c1, c2, r1, r2, z1⟩ := bx2 w [.slice a l.length k, .bool s, .slice b m d, .slice b' m' d'] [.bool false, .slice none 0 0, .slice none 0 0] 63 32
  have HW := Lib.hid hw1
  have C1 := Lib.hid c1
  have R2 : Hid (Rt w1 (w.heap.size + 1) 3 32) := by
    show Rt _ _ _ _
    rw [hw1]
    have := Rt.new (w.alloc (.cells #[.slice a l.length k, .bool s, .slice b m d, .slice b' m' d'] 63)) [.bool false, .slice none 0 0, .slice none 0 0] 32
    simpa using this
  clear c1 c2 r1 r2 hw1 z1
  go_enter Try.func52, Try.ntmps52
  go_upto_region 1 with (fail)
  rw [← HW.out]
  clear HW
  obtain ⟨w2, hw2, b2, hC2, -⟩ : ∃ W, W = w1.alloc (.cells #[.bool s, .slice b m d, .slice b' m' d'] 32) ∧ Ext w1 W ∧ Bq 163 32 W w1.heap.size c ∧ W.heap.size = w1.heap.size + 1 := ⟨_, rfl, Ext.alloc _ _, Bq.new ((HRC.out).ext b1), by simp⟩
  have HW := Lib.hid hw2
  clear hw2
  obtain ⟨k0, k1, k2, k3⟩ := C1.out.c4
  go_upto_region 2 with (fail)
  rw [← HW.out]
  clear HW k0 k1 k2 k3
  have k0 := (C1.out.ext b2).c1
  go_wp2_with fail
  clear k0
  go_loopw [13] (fun t wr => ∃ j : Nat, t = .int .i64 j ∧ j ≤ l.length ∧ Ext w1 wr ∧ Hid (Bq 163 32 wr w1.heap.size (c + tv P (l.take j)))) (fun t _ => l.length - (intOf t).toNat)
  case atStart => exact ⟨0, rfl, Nat.zero_le _, b2, by
    rw [List.take_zero]
    show Hid (Bq _ _ _ _ (c + 0))
    rw [Rat.add_zero]
    exact hC2⟩
  case round =>
    clear hC2
    obtain ⟨j, rfl, hj, hx, hC⟩ := hrel
    by_cases hjl : j < l.length
    · have hd : decide ((j : Int) < (l.length : Int)) = true := decide_eq_true (by omega)
      obtain ⟨bT, oT, rfl⟩ := HRW.out.some_at hjl
      obtain ⟨sx, ax, lx, mx, ay, ly, my, hB4, hQ4⟩ := HRW.out.tm j hjl
      obtain ⟨u0, u1, u2, u3⟩ := hB4.ext (Ext.trans b1 hx)
      have hJ1 : IntKind.i64.wrap (j : Int) = (j : Int) := by rw [IntKind.wrap_i64]; omega
      have hJ2 : (0 : Int) ≤ (j : Int) ∧ (j : Int) < (l.length : Int) := ⟨by omega, by omega⟩
      have HSN := Lib.hid (tv_snoc P hjl)
      have HZJ := Lib.hid (HSZ.out j hj)
      have HSQ : Hid (Sz L (gt l j).2 ∧ (0 ≤ (gt l j).1 → (gt l j).1 < P.length → Sz M (gt P (gt l j).1.toNat))) := by
        show _ ∧ _
        rw [gt_lt hjl]
        exact ⟨HS.out _ (List.getElem_mem hjl), HSP.out _ (List.getElem_mem hjl)⟩
      obtain ⟨y, hy⟩ : ∃ y, (gt l j).1 = y := ⟨_, rfl⟩
      obtain ⟨q4, hq4⟩ : ∃ q4, (gt l j).2 = q4 := ⟨_, rfl⟩
      have HTM : Hid (tmv P (gt l j) = if 0 ≤ y ∧ y < P.length then q4 * gt P y.toNat else 0) := by
        show _ = _
        rw [← hy, ← hq4]; rfl
      rw [hy, hq4] at HSQ
      rw [HTM.out] at HSN
      rw [hy] at u0
      rw [hq4] at hQ4
      have HQ4 := Lib.hid (hQ4.ext (Ext.trans b1 hx))
      clear hy hq4 hB4 hQ4 HTM
      obtain ⟨w4, hw4, b4, c4, -, -⟩ := bx1 wr [.int .i64 y, .bool sx, .slice ax lx mx, .slice ay ly my] 84
      have HW := Lib.hid hw4
      have C4 := Lib.hid c4
      clear hw4 c4
      go_upto_region 5 with (fail)
      rw [← HW.out]
      clear HW u0 u1 u2 u3
      obtain ⟨u0, u1, u2, u3⟩ := C4.out.c4
      have hC4 := Lib.hid (hC.out.ext b4)
      have b04 := Ext.trans b1 (Ext.trans hx b4)
      clear hC
      generalize tv P (l.take j) = tj at *
      by_cases hy0 : 0 ≤ y
      · have hdy : decide (0 ≤ y) = true := decide_eq_true hy0
        by_cases hyP : y < P.length
        · have hdp : decide (y < (P.length : Int)) = true := decide_eq_true hyP
          obtain ⟨i, rfl⟩ : ∃ i : Nat, y = i := ⟨y.toNat, by omega⟩
          have hiP : i < P.length := by omega
          rw [if_pos ⟨hy0, hyP⟩, Int.toNat_natCast] at HSN
          have HSM := Lib.hid (HSQ.out.2 hy0 hyP)
          rw [Int.toNat_natCast] at HSM
          obtain ⟨bP, oP, sp, xp, kp', mp, yp, k2', m2', hae, hbo, hqp⟩ := HP.out.oq i hiP
          subst hae
          have hI1 : IntKind.i64.wrap (i : Int) = (i : Int) := by rw [IntKind.wrap_i64]; unfold maxLen at hpm; omega
          have hI2 : (0 : Int) ≤ (i : Int) ∧ (i : Int) < (P.length : Int) := ⟨by omega, by omega⟩
          have CP := Lib.hid (hbo.ext b04)
          have HQP := Lib.hid (hqp.ext b04)
          generalize gt P i = pv at *
          clear hbo hqp
          go_upto_region 6 with (fail)
          obtain ⟨s0, e1, n1, g1, e2, n2, g2, T1, T2, T3⟩ := hC4.out.op
          clear u0 u1 u2 u3
          have b5 := drew_ext w4
          have XE := b5
          refine wp_region_noPanic ?_
          refine wp_region_last_drew (st := 10) (S := fun w' => (w'.cell? ⟨w1.heap.size, 0, none⟩ = some (.bool s0) ∧ w'.cell? ⟨w1.heap.size, 1, none⟩ = some (.slice e1 n1 g1) ∧ w'.cell? ⟨w1.heap.size, 2, none⟩ = some (.slice e2 n2 g2)) ∧ (w'.cell? ⟨wr.heap.size, 0, none⟩ = some (.int .i64 i) ∧ w'.cell? ⟨wr.heap.size, 1, none⟩ = some (.bool sx) ∧ w'.cell? ⟨wr.heap.size, 2, none⟩ = some (.slice ax lx mx) ∧ w'.cell? ⟨wr.heap.size, 3, none⟩ = some (.slice ay ly my)) ∧ (w'.cell? ⟨bP, oP + i * 3, none⟩ = some (.bool sp) ∧ w'.cell? ⟨bP, oP + i * 3 + 1, none⟩ = some (.slice xp kp' mp) ∧ w'.cell? ⟨bP, oP + i * 3 + 2, none⟩ = some (.slice yp k2' m2'))) (by kernel_rfl) (⟨(T1.out.ext XE).c3, (C4.out.ext XE).c4, (CP.out.ext XE).c3⟩) (fun hHeld => ?_)
          refine wpAnyL_take (i := 0) (v := ?_) rfl (by kernel_rfl) (by kernel_rfl) (by kernel_rfl) (by kernel_rfl) (fun _ _ _ h => h) (Or.inl ⟨by rfl, fun w0 hSw => ?_⟩) hHeld ?_
          rotate_left
          · (try dsimp only at hSw)
            go_simp
            try with_reducible rfl
          simp only [Act.put, List.getElem_toArray, List.getElem_cons_succ, List.getElem_cons_zero, List.setIfInBounds_toArray, List.set_cons_zero, List.set_cons_succ]
          refine wpAnyL_take (i := 1) (v := ?_) rfl (by kernel_rfl) (by kernel_rfl) (by kernel_rfl) (by kernel_rfl) (fun _ _ _ h => h) (Or.inl ⟨by rfl, fun w0 hSw => ?_⟩) hHeld ?_
          rotate_left
          · (try dsimp only at hSw)
            go_simp
            try with_reducible rfl
          simp only [Act.put, List.getElem_toArray, List.getElem_cons_succ, List.getElem_cons_zero, List.setIfInBounds_toArray, List.set_cons_zero, List.set_cons_succ]
          refine wpAnyL_take (i := 2) (v := ?_) rfl (by kernel_rfl) (by kernel_rfl) (by kernel_rfl) (by kernel_rfl) (fun _ _ _ h => h) (Or.inl ⟨by rfl, fun w0 hSw => ?_⟩) hHeld ?_
          rotate_left
          · (try dsimp only at hSw)
            go_simp
            try with_reducible rfl
          simp only [Act.put, List.getElem_toArray, List.getElem_cons_succ, List.getElem_cons_zero, List.setIfInBounds_toArray, List.set_cons_zero, List.set_cons_succ]
          refine wpAnyL_take (i := 3) (v := ?_) rfl (by kernel_rfl) (by kernel_rfl) (by kernel_rfl) (by kernel_rfl) (fun _ _ _ h => h) (Or.inl ⟨by rfl, fun w0 hSw => ?_⟩) hHeld ?_
          rotate_left
          · (try dsimp only at hSw)
            go_simp
            try with_reducible rfl
          simp only [Act.put, List.getElem_toArray, List.getElem_cons_succ, List.getElem_cons_zero, List.setIfInBounds_toArray, List.set_cons_zero, List.set_cons_succ]
          refine wpAnyL_take (i := 4) (v := ?_) rfl (by kernel_rfl) (by kernel_rfl) (by kernel_rfl) (by kernel_rfl) (fun _ _ _ h => h) (Or.inl ⟨by rfl, fun w0 hSw => ?_⟩) hHeld ?_
          rotate_left
          · (try dsimp only at hSw)
            go_simp
            try with_reducible rfl
          simp only [Act.put, List.getElem_toArray, List.getElem_cons_succ, List.getElem_cons_zero, List.setIfInBounds_toArray, List.set_cons_zero, List.set_cons_succ]
          refine wpAnyL_take (i := 5) (v := ?_) rfl (by kernel_rfl) (by kernel_rfl) (by kernel_rfl) (by kernel_rfl) (fun _ _ _ h => h) (Or.inl ⟨by rfl, fun w0 hSw => ?_⟩) hHeld ?_
          rotate_left
          · (try dsimp only at hSw)
            go_simp
            try with_reducible rfl
          simp only [Act.put, List.getElem_toArray, List.getElem_cons_succ, List.getElem_cons_zero, List.setIfInBounds_toArray, List.set_cons_zero, List.set_cons_succ]
          refine wpAnyL_take (i := 6) (v := ?_) rfl (by kernel_rfl) (by kernel_rfl) (by kernel_rfl) (by kernel_rfl) (fun _ _ _ h => h) (Or.inl ⟨by rfl, fun w0 hSw => ?_⟩) hHeld ?_
          rotate_left
          · (try dsimp only at hSw)
            go_simp
            try with_reducible rfl
          simp only [Act.put, List.getElem_toArray, List.getElem_cons_succ, List.getElem_cons_zero, List.setIfInBounds_toArray, List.set_cons_zero, List.set_cons_succ]
          refine wpAnyL_take (i := 7) (v := ?_) rfl (by kernel_rfl) (by kernel_rfl) (by kernel_rfl) (by kernel_rfl) (fun _ _ _ h => h) (Or.inl ⟨by rfl, fun w0 hSw => ?_⟩) hHeld ?_
          rotate_left
          · (try dsimp only at hSw)
            go_simp
            try with_reducible rfl
          simp only [Act.put, List.getElem_toArray, List.getElem_cons_succ, List.getElem_cons_zero, List.setIfInBounds_toArray, List.set_cons_zero, List.set_cons_succ]
          refine wpAnyL_ready (rs := [8]) (by kernel_rfl) (by simp) ?_
          refine AllReadyL.cons (o := _) rfl (fun K hK => ?_) AllReadyL.nil
          go_simp
          go_at_call 29; refine (rmul_any ((HQ4.out.ext b4).rd.ext XE) (HQP.out.rd.ext XE) (HSQ.out.1.le (by omega)) (HSM.out.le (by omega))).mono ?_; rintro e w6 ⟨v6, rfl, b6, o6⟩; have O6 := Lib.hid o6; clear o6; (first | have XE := Ext.trans XE b6 | have XE := Ext.trans (Ext.trans XE (Ext.alloc _ _)) b6)
          go_wp2_with fail
          refine hK.out _ _ (⟨(T1.out.ext XE).c3, (C4.out.ext XE).c4, (CP.out.ext XE).c3⟩) (fun hHeld => ?_)
          clear hK K
          try simp only [Act.put, List.getElem_toArray, List.getElem_cons_succ, List.getElem_cons_zero, List.setIfInBounds_toArray, List.set_cons_zero, List.set_cons_succ]
          refine wpAnyL_ready (rs := [9]) (by kernel_rfl) (by simp) ?_
          refine AllReadyL.cons (o := _) rfl (fun K hK => ?_) AllReadyL.nil
          go_simp
          go_at_call 28; refine (radd_any (T3.out.rd.ext XE) O6.out.rd HZJ.out ((HSQ.out.1.mul HSM.out).le (by omega))).mono ?_; rintro e w7 ⟨v7, rfl, b7, o7⟩; have O7 := Lib.hid o7; clear o7; (first | have XE := Ext.trans XE b7 | have XE := Ext.trans (Ext.trans XE (Ext.alloc _ _)) b7); obtain ⟨_, _, _, _, _, _, _, rfl, P7⟩ := O7.out.op
          go_wp2_with fail
          refine hK.out _ _ (⟨(T1.out.ext XE).c3, (C4.out.ext XE).c4, (CP.out.ext XE).c3⟩) (fun hHeld => ?_)
          clear hK K
          try simp only [Act.put, List.getElem_toArray, List.getElem_cons_succ, List.getElem_cons_zero, List.setIfInBounds_toArray, List.set_cons_zero, List.set_cons_succ]
          obtain ⟨_, _, _, j0, j1, j2, i0, i1, i2⟩ := (T2.out.ext XE).rm.c3
          refine wpAnyL_ready (rs := [10]) (by kernel_rfl) (by simp) ?_
          refine AllReadyL.last (o := _) rfl (fun K hK => ?_)
          go_simp
          refine hK.out _ _ ?_
          clear hK K
          try simp only [Act.put, List.getElem_toArray, List.getElem_cons_succ, List.getElem_cons_zero, List.setIfInBounds_toArray, List.set_cons_zero, List.set_cons_succ]
          refine wpAnyL_done (by kernel_rfl) ?_ _
          refine NoPanic.normal ?_
          go_wp2_with fail
          go_roundw
          case rel => exact ⟨j + 1, by go_num, by omega, put3_below (Ext.trans hx (Ext.trans b4 XE)) (Nat.le_refl _) _ _ _, by
            rw [HSN.out, ← Rat.add_assoc]
            exact Bq.set (T2.out.ext XE) (by decide) (P7.out.mono (Nat.zero_le _))⟩
          case measure => simp [intOf] <;> omega
        · have hdp : decide (y < (P.length : Int)) = false := decide_eq_false hyP
          rw [if_neg (fun h => hyP h.2), Rat.add_zero] at HSN
          go_wp2_with fail
          go_roundw
          case rel => exact ⟨j + 1, by go_num, by omega, Ext.trans hx b4, by rw [HSN.out]; exact hC4.out⟩
          case measure => simp [intOf] <;> omega
      · have hdy : decide (0 ≤ y) = false := decide_eq_false hy0
        rw [if_neg (fun h => hy0 h.1), Rat.add_zero] at HSN
        go_wp2_with fail
        go_roundw
        case rel => exact ⟨j + 1, by go_num, by omega, Ext.trans hx b4, by rw [HSN.out]; exact hC4.out⟩
        case measure => simp [intOf] <;> omega
    · obtain rfl : j = l.length := by omega
      have hd : decide ((l.length : Int) < (l.length : Int)) = false := decide_eq_false (by omega)
      rw [List.take_length] at hC
      obtain ⟨s0, e1, n1, g1, e2, n2, g2, T1, T2, T3⟩ := hC.out.op
      obtain ⟨k0, k1, k2⟩ := T1.out.c3
      have RR := Lib.hid (R2.out.ext hx)
      obtain ⟨_, _, _, j0, j1, j2, i0, i1, i2⟩ := RR.out.rm.c3
      go_wp2_with fail
      refine bodyPost_ret (v := .agg #[.bool s0, .slice e1 n1 g1, .slice e2 n2 g2]) (by simp [results, Try.results52, go_sem, j0, j1, j2]) rfl ?_
      exact hR.out _ _ (Gives.mk (put3_below (Ext.trans b1 hx) (Nat.le_succ _) _ _ _) (T3.out.putT RR.out (by decide) 0 [_, _, _]))
end Go.Proofs.Ytnbbhpihlcglgaa
