/- attestref17.Max -/
import Derived.Test.YtpeeacdnjbcmiaaPSpanMax
import Derived.Test.YtpeeacdnjbcmiaaPRef17
namespace Go.Proofs.Ytpeeacdnjbcmiaa
open Go.RowKit Go.Att

theorem top_cells {w : World} {x0 x1 x2 y0 y1 y2 : Value} {a b : Rat} (h1 : RdP w (.agg #[x0, x1, x2]) a) (h2 : RdP w (.agg #[y0, y1, y2]) b) (sa : Sb 50000 a) (sb : Sb 50000 b) :
    ∃ z0 z1 z2, RdP w (.agg #[z0, z1, z2]) (mx a b) ∧ ∀ w', Ext w w' → Calls Try.prog 104 #[.agg #[x0, x1, x2], .agg #[y0, y1, y2]] w' (Gives w' fun v' _ => v' = .agg #[z0, z1, z2]) := by
  unfold mx
  by_cases h : 0 ≤ (a - b).num.sign
  · rw [if_pos h]
    exact ⟨x0, x1, x2, h1, fun _ X => by have := top_val (h1.ext X) (h2.ext X) sa sb; rw [if_pos h] at this; exact this⟩
  · rw [if_neg h]
    exact ⟨y0, y1, y2, h2, fun _ X => by have := top_val (h1.ext X) (h2.ext X) sa sb; rw [if_neg h] at this; exact this⟩
theorem RdE.fst3 {w : World} {x0 x1 x2 x3 x4 x5 : Value} {a b : Rat} (h : RdE w (.agg #[x0, x1, x2, x3, x4, x5]) a b) : RdP w (.agg #[x0, x1, x2]) a := by
  obtain ⟨_, _, _, _, _, _, he, h1, -⟩ := h
  simp only [Value.agg.injEq, Array.mk.injEq, List.cons.injEq, and_true] at he
  obtain ⟨rfl, rfl, rfl, -, -, -⟩ := he
  exact h1
theorem RdE.snd3 {w : World} {x0 x1 x2 x3 x4 x5 : Value} {a b : Rat} (h : RdE w (.agg #[x0, x1, x2, x3, x4, x5]) a b) : RdP w (.agg #[x3, x4, x5]) b := by
  obtain ⟨_, _, _, _, _, _, he, -, h1⟩ := h
  simp only [Value.agg.injEq, Array.mk.injEq, List.cons.injEq, and_true] at he
  obtain ⟨-, -, -, rfl, rfl, rfl⟩ := he
  exact h1

set_option maxHeartbeats 2000000 in
set_option linter.unusedSimpArgs false in
theorem r17max_any {w : World} {v : Value} {l : List (Rat × Rat)} (hv : RdRow 6 RdEp w v l) (h0 : 0 < l.length) (hs : ∀ p ∈ l, Sb 50000 p.1 ∧ Sb 50000 p.2) :
    Calls Try.prog 51 #[v] w (Gives w fun v' w' => RdE w' v' (mxs l l[0]).1 (mxs l l[0]).2) := by
  refine via fun R hR => ?_
  have HS := Lib.hid hs
  obtain ⟨a, c, rfl, hlc, hcm⟩ := hv.shape
  have HV := Lib.hid hv
  unfold maxLen at hcm
  obtain ⟨b, off, cs, rfl, hcl, hT, hc⟩ := hv.at (by decide) 0 h0
  obtain ⟨z0, z1, z2, z3, z4, z5, rfl, hz1, hz2⟩ := cells_E hT
  have HZ : Hid (RdE w (.agg #[z0, z1, z2, z3, z4, z5]) l[0].1 l[0].2) := hT
  obtain ⟨_, _, _, _, _, _, _, rfl, rfl, rfl⟩ := RdP.op3 hz1
  obtain ⟨_, _, _, _, _, _, _, rfl, rfl, rfl⟩ := RdP.op3 hz2
  obtain ⟨w1, hw1, b1, -, r1, -⟩ := bx1 w [.bool false, .slice none 0 0, .slice none 0 0, .bool false, .slice none 0 0, .slice none 0 0] 69
  have HW := Lib.hid hw1
  have R1 : Hid (Rm w1 w.heap.size 6) := r1
  have e0 := Ext.cell b1 (hc 0 (by decide))
  have e1 := Ext.cell b1 (hc 1 (by decide))
  have e2 := Ext.cell b1 (hc 2 (by decide))
  have e3 := Ext.cell b1 (hc 3 (by decide))
  have e4 := Ext.cell b1 (hc 4 (by decide))
  have e5 := Ext.cell b1 (hc 5 (by decide))
  simp only [List.getElem?_cons_zero, List.getElem?_cons_succ, Nat.add_zero, Nat.zero_mul] at e0 e1 e2 e3 e4 e5
  clear hv hs hT hz1 hz2 hc hw1 r1
  go_enter Try.func51, Try.ntmps51
  go_upto_region 1 with (fail)
  rw [← HW.out]
  clear HW
  go_wp2_with fail
  clear e0 e1 e2 e3 e4 e5
  go_loopw [11] (fun i wr => ∃ (k : Nat) (x0 x1 x2 x3 x4 x5 : Value), i = .int .i64 k ∧ k ≤ l.length ∧ Ext w1 wr ∧ Hid (Bx wr w1.heap.size [x0, x1, x2, x3, x4, x5]) ∧ Hid (Rm wr w1.heap.size 6) ∧ Hid (RdE w (.agg #[x0, x1, x2, x3, x4, x5]) (mxs (l.take k) l[0]).1 (mxs (l.take k) l[0]).2)) (fun i _ => l.length - (intOf i).toNat)
  case atStart => exact ⟨0, _, _, _, _, _, _, rfl, Nat.zero_le _, Ext.alloc _ _, Bx.new w1 [_, _, _, _, _, _] _, Rm.new w1 [_, _, _, _, _, _] _, by rw [List.take_zero]; exact HZ.out⟩
  case round =>
    obtain ⟨k, x0, x1, x2, x3, x4, x5, rfl, hk, hx, hB, hM, hD⟩ := hrel
    have b2 := hx
    generalize wr = w2 at *
    have hsz := hx.size
    by_cases hlt : k < l.length
    · obtain ⟨b', off', cs, hb', hcl, hT, hc⟩ := HV.out.at (by decide) k hlt
      simp only [Option.some.injEq, Addr.mk.injEq, and_true] at hb'
      obtain ⟨rfl, rfl⟩ := hb'
      obtain ⟨y0, y1, y2, y3, y4, y5, rfl, hy1, hy2⟩ := cells_E hT
      obtain ⟨s0, a1, n1, c1, a2, n2, c2, rfl, rfl, rfl⟩ := RdP.op3 hy1
      obtain ⟨s3, a4, n4, c4, a5, n5, c5, rfl, rfl, rfl⟩ := RdP.op3 hy2
      obtain ⟨s1, s2⟩ := HS.out l[k] (List.getElem_mem hlt)
      obtain ⟨r1, r2⟩ := mxs_all (Sb 50000) (l.take k) l[0] (HS.out _ (List.getElem_mem h0)) (fun _ h => HS.out _ (List.mem_of_mem_take h))
      have HK := Lib.hid (mxs_take hlt l[0])
      generalize mxs (l.take k) l[0] = m at *
      generalize l[k] = y at *
      obtain ⟨p0, p1, p2, hA, hcA⟩ := top_cells (RdE.fst3 hD.out) hy1 r1 s1
      obtain ⟨q0, q1, q2, hB', hcB⟩ := top_cells (RdE.snd3 hD.out) hy2 r2 s2
      have HA := Lib.hid hA
      have HB := Lib.hid hB'
      have HCA := Lib.hid hcA
      have HCB := Lib.hid hcB
      obtain ⟨_, _, _, _, _, _, _, rfl, rfl, rfl⟩ := RdP.op3 hA
      obtain ⟨_, _, _, _, _, _, _, rfl, rfl, rfl⟩ := RdP.op3 hB'
      have b02 := Ext.trans b1 b2
      have e0 := Ext.cell b02 (hc 0 (by decide))
      have e1 := Ext.cell b02 (hc 1 (by decide))
      have e2 := Ext.cell b02 (hc 2 (by decide))
      have e3 := Ext.cell b02 (hc 3 (by decide))
      have e4 := Ext.cell b02 (hc 4 (by decide))
      have e5 := Ext.cell b02 (hc 5 (by decide))
      simp only [List.getElem?_cons_zero, List.getElem?_cons_succ, Nat.add_zero] at e0 e1 e2 e3 e4 e5
      obtain ⟨w3, hw3, b3, c3, -, -⟩ := bx1 w2 [.bool s0, .slice a1 n1 c1, .slice a2 n2 c2, .bool s3, .slice a4 n4 c4, .slice a5 n5 c5] 69
      have HW := Lib.hid hw3
      have C3 := Lib.hid c3
      have CM := Lib.hid (hB.out.ext b3)
      have RM := Lib.hid (hM.out.ext b3)
      clear hT hc hy1 hy2 s1 s2 r1 r2 hA hB' hcA hcB hw3 c3 hB hM
      go_upto_region 5 with (fail)
      rw [← HW.out]
      clear HW e0 e1 e2 e3 e4 e5 hcl
      generalize Value.bool s0 = y0 at *
      generalize Value.slice a1 n1 c1 = y1 at *
      generalize Value.slice a2 n2 c2 = y2 at *
      generalize Value.bool s3 = y3 at *
      generalize Value.slice a4 n4 c4 = y4 at *
      generalize Value.slice a5 n5 c5 = y5 at *
      have b4 := drew_ext w3
      have XE := b4
      refine wp_region_noPanic ?_
      refine wp_region_last_drew (st := 11) (S := fun w' => (w'.cell? ⟨w1.heap.size, 0, none⟩ = some (x0) ∧ w'.cell? ⟨w1.heap.size, 1, none⟩ = some (x1) ∧ w'.cell? ⟨w1.heap.size, 2, none⟩ = some (x2) ∧ w'.cell? ⟨w1.heap.size, 3, none⟩ = some (x3) ∧ w'.cell? ⟨w1.heap.size, 4, none⟩ = some (x4) ∧ w'.cell? ⟨w1.heap.size, 5, none⟩ = some (x5)) ∧ (w'.cell? ⟨w2.heap.size, 0, none⟩ = some (y0) ∧ w'.cell? ⟨w2.heap.size, 1, none⟩ = some (y1) ∧ w'.cell? ⟨w2.heap.size, 2, none⟩ = some (y2) ∧ w'.cell? ⟨w2.heap.size, 3, none⟩ = some (y3) ∧ w'.cell? ⟨w2.heap.size, 4, none⟩ = some (y4) ∧ w'.cell? ⟨w2.heap.size, 5, none⟩ = some (y5))) (by kernel_rfl) (⟨(CM.out.ext XE).c6, (C3.out.ext XE).c6⟩) (fun hHeld => ?_)
      refine wpAnyL_take (i := 0) (v := ?_) rfl (by kernel_rfl) (by kernel_rfl) (by kernel_rfl) (by kernel_rfl) (fun _ _ _ h => h) (Or.inl ⟨by rfl, fun w0 hSw => ?_⟩) hHeld ?_
      rotate_left
      · (try dsimp only at hSw)
        go_simp
        try with_reducible rfl
      simp only [Act.put, List.getElem_toArray, List.getElem_cons_succ, List.getElem_cons_zero, List.setIfInBounds_toArray, List.set_cons_zero, List.set_cons_succ]
      refine wpAnyL_take (i := 1) (v := ?_) rfl (by kernel_rfl) (by kernel_rfl) (by kernel_rfl) (by kernel_rfl) (fun _ _ _ h => h) (Or.inl ⟨by rfl, fun w0 hSw => ?_⟩) hHeld ?_
      rotate_left
      · (try dsimp only at hSw)
        go_simp
        try with_reducible rfl
      simp only [Act.put, List.getElem_toArray, List.getElem_cons_succ, List.getElem_cons_zero, List.setIfInBounds_toArray, List.set_cons_zero, List.set_cons_succ]
      refine wpAnyL_take (i := 2) (v := ?_) rfl (by kernel_rfl) (by kernel_rfl) (by kernel_rfl) (by kernel_rfl) (fun _ _ _ h => h) (Or.inl ⟨by rfl, fun w0 hSw => ?_⟩) hHeld ?_
      rotate_left
      · (try dsimp only at hSw)
        go_simp
        try with_reducible rfl
      simp only [Act.put, List.getElem_toArray, List.getElem_cons_succ, List.getElem_cons_zero, List.setIfInBounds_toArray, List.set_cons_zero, List.set_cons_succ]
      refine wpAnyL_take (i := 3) (v := ?_) rfl (by kernel_rfl) (by kernel_rfl) (by kernel_rfl) (by kernel_rfl) (fun _ _ _ h => h) (Or.inl ⟨by rfl, fun w0 hSw => ?_⟩) hHeld ?_
      rotate_left
      · (try dsimp only at hSw)
        go_simp
        try with_reducible rfl
      simp only [Act.put, List.getElem_toArray, List.getElem_cons_succ, List.getElem_cons_zero, List.setIfInBounds_toArray, List.set_cons_zero, List.set_cons_succ]
      refine wpAnyL_take (i := 5) (v := ?_) rfl (by kernel_rfl) (by kernel_rfl) (by kernel_rfl) (by kernel_rfl) (fun _ _ _ h => h) (Or.inl ⟨by rfl, fun w0 hSw => ?_⟩) hHeld ?_
      rotate_left
      · (try dsimp only at hSw)
        go_simp
        try with_reducible rfl
      simp only [Act.put, List.getElem_toArray, List.getElem_cons_succ, List.getElem_cons_zero, List.setIfInBounds_toArray, List.set_cons_zero, List.set_cons_succ]
      refine wpAnyL_take (i := 6) (v := ?_) rfl (by kernel_rfl) (by kernel_rfl) (by kernel_rfl) (by kernel_rfl) (fun _ _ _ h => h) (Or.inl ⟨by rfl, fun w0 hSw => ?_⟩) hHeld ?_
      rotate_left
      · (try dsimp only at hSw)
        go_simp
        try with_reducible rfl
      simp only [Act.put, List.getElem_toArray, List.getElem_cons_succ, List.getElem_cons_zero, List.setIfInBounds_toArray, List.set_cons_zero, List.set_cons_succ]
      refine wpAnyL_take (i := 7) (v := ?_) rfl (by kernel_rfl) (by kernel_rfl) (by kernel_rfl) (by kernel_rfl) (fun _ _ _ h => h) (Or.inl ⟨by rfl, fun w0 hSw => ?_⟩) hHeld ?_
      rotate_left
      · (try dsimp only at hSw)
        go_simp
        try with_reducible rfl
      simp only [Act.put, List.getElem_toArray, List.getElem_cons_succ, List.getElem_cons_zero, List.setIfInBounds_toArray, List.set_cons_zero, List.set_cons_succ]
      refine wpAnyL_take (i := 8) (v := ?_) rfl (by kernel_rfl) (by kernel_rfl) (by kernel_rfl) (by kernel_rfl) (fun _ _ _ h => h) (Or.inl ⟨by rfl, fun w0 hSw => ?_⟩) hHeld ?_
      rotate_left
      · (try dsimp only at hSw)
        go_simp
        try with_reducible rfl
      simp only [Act.put, List.getElem_toArray, List.getElem_cons_succ, List.getElem_cons_zero, List.setIfInBounds_toArray, List.set_cons_zero, List.set_cons_succ]
      refine wpAnyL_ready (rs := [4]) (by kernel_rfl) (by simp) ?_
      refine AllReadyL.cons (o := _) rfl (fun K hK => ?_) AllReadyL.nil
      go_simp
      go_at_call 104; refine (HCA.out _ (Ext.trans b02 (Ext.trans b3 XE))).mono ?_; rintro e w5 ⟨_, rfl, b5, rfl⟩; (first | have XE := Ext.trans XE b5 | have XE := Ext.trans (Ext.trans XE (Ext.alloc _ _)) b5)
      go_wp2_with fail
      refine hK.out _ _ (⟨(CM.out.ext XE).c6, (C3.out.ext XE).c6⟩) (fun hHeld => ?_)
      clear hK K
      try simp only [Act.put, List.getElem_toArray, List.getElem_cons_succ, List.getElem_cons_zero, List.setIfInBounds_toArray, List.set_cons_zero, List.set_cons_succ]
      refine wpAnyL_ready (rs := [9]) (by kernel_rfl) (by simp) ?_
      refine AllReadyL.cons (o := _) rfl (fun K hK => ?_) AllReadyL.nil
      go_simp
      go_at_call 104; refine (HCB.out _ (Ext.trans b02 (Ext.trans b3 XE))).mono ?_; rintro e w6 ⟨_, rfl, b6, rfl⟩; (first | have XE := Ext.trans XE b6 | have XE := Ext.trans (Ext.trans XE (Ext.alloc _ _)) b6)
      go_wp2_with fail
      refine hK.out _ _ (⟨(CM.out.ext XE).c6, (C3.out.ext XE).c6⟩) (fun hHeld => ?_)
      clear hK K
      try simp only [Act.put, List.getElem_toArray, List.getElem_cons_succ, List.getElem_cons_zero, List.setIfInBounds_toArray, List.set_cons_zero, List.set_cons_succ]
      refine wpAnyL_take (i := 10) (v := ?_) rfl (by kernel_rfl) (by kernel_rfl) (by kernel_rfl) (by kernel_rfl) (fun _ _ _ h => h) (Or.inl ⟨by rfl, fun w0 hSw => ?_⟩) hHeld ?_
      rotate_left
      · (try dsimp only at hSw)
        go_simp
        try with_reducible rfl
      simp only [Act.put, List.getElem_toArray, List.getElem_cons_succ, List.getElem_cons_zero, List.setIfInBounds_toArray, List.set_cons_zero, List.set_cons_succ]
      obtain ⟨_, _, _, _, _, _, j0, j1, j2, j3, j4, j5, g0, g1, g2, g3, g4, g5⟩ := (RM.out.ext XE).c6
      refine wpAnyL_ready (rs := [11]) (by kernel_rfl) (by simp) ?_
      refine AllReadyL.last (o := _) rfl (fun K hK => ?_)
      go_simp
      refine hK.out _ _ ?_
      clear hK K
      try simp only [Act.put, List.getElem_toArray, List.getElem_cons_succ, List.getElem_cons_zero, List.setIfInBounds_toArray, List.set_cons_zero, List.set_cons_succ]
      refine wpAnyL_done (by kernel_rfl) ?_ _
      refine NoPanic.normal ?_
      go_wp2_with fail
      go_roundw
      case rel =>
        have X := Ext.trans b3 XE
        exact ⟨k + 1, _, _, _, _, _, _, by go_num, by omega, put6_below (Ext.trans b2 X) (Nat.le_refl _) _ _ _ _ _ _, (Bx.putL_at (RM.out.ext XE) [_, _, _, _, _, _] rfl).1, (Bx.putL_at (RM.out.ext XE) [_, _, _, _, _, _] rfl).2, by rw [HK.out]; exact ⟨_, _, _, _, _, _, rfl, HA.out, HB.out⟩⟩
      case measure => simp [intOf] <;> omega
    · obtain rfl : k = l.length := by omega
      have HX : Hid (mxs (l.take l.length) l[0] = mxs l l[0]) := by show _ = _; rw [List.take_length]
      obtain ⟨k0, k1, k2, k3, k4, k5⟩ := hB.out.c6
      obtain ⟨s0, a1, n1, c1, a2, n2, c2, s3, a4, n4, c4, a5, n5, c5, hsh, -⟩ := RdE.op hD.out
      simp only [Value.agg.injEq, Array.mk.injEq, List.cons.injEq, and_true] at hsh
      obtain ⟨rfl, rfl, rfl, rfl, rfl, rfl⟩ := hsh
      obtain ⟨_, _, _, _, _, _, j0, j1, j2, j3, j4, j5, g0, g1, g2, g3, g4, g5⟩ := (R1.out.ext hx).c6
      go_wp2_with fail
      refine bodyPost_ret (v := .agg #[.bool s0, .slice a1 n1 c1, .slice a2 n2 c2, .bool s3, .slice a4 n4 c4, .slice a5 n5 c5]) (by simp [results, Try.results51, go_sem, j0, j1, j2, j3, j4, j5]) rfl ?_
      exact hR.out _ _ (Gives.mk (put6_below (Ext.trans b1 b2) (Nat.le_refl _) _ _ _ _ _ _) (by rw [← HX.out]; exact hD.out.ext (put6_below (Ext.trans b1 b2) (Nat.le_refl _) _ _ _ _ _ _)))
end Go.Proofs.Ytpeeacdnjbcmiaa
