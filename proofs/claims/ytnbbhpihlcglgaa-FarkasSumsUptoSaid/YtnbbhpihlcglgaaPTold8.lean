/- attestlaw08.Told -/
import Derived.Test.YtnbbhpihlcglgaaLinPlain
import Derived.Test.YtnbbhpihlcglgaaLinAll
import Derived.Test.YtnbbhpihlcglgaaPTold
namespace Go.Proofs.Ytnbbhpihlcglgaa
open Go.RowKit Go.Att

abbrev OwnY (B : Nat) (w : World) (v : Value) (l : TL) (c : Rat) : Prop := OwnEy 4 173 B w v l c
theorem etTp8 : ElemT Try.prog 67 173 (.agg #[.int .i64 0, .bool false, .slice none 0 0, .slice none 0 0]) 4 64 := ElemT.mk' Try.underlying67 (by kernel_rfl) rfl (by decide)
theorem take_snoc8 {l : TL} {j : Nat} (hj : j < l.length) : l.take (j + 1) = l.take j ++ [gt l j] := by rw [← List.take_append_getElem hj, gt_lt hj]
set_option linter.unusedSimpArgs false in
set_option maxHeartbeats 4000000 in
set_option maxRecDepth 100000 in
theorem told8_any {w : World} {v : Value} {l : TL} {c : Rat} (hv : RdX w v l c) (hs : ∀ t ∈ l, Sz 1000000 t.2) (hsc : Sz 1000000 c) (hl : l.length ≤ 1000) :
    Calls Try.prog 33 #[v] w (Gives w fun v' w' => OwnY w.heap.size w' v' l c) := by
  refine via fun R hR => ?_
  have HS := Lib.hid hs
  have HSC := Lib.hid hsc
  obtain ⟨a, k, s, b, m, d, b', m', d', rfl, hlk, hkm, HRW, HRC⟩ := hv.op
  clear hv hs hsc
  obtain ⟨w1, hw1, b1, c2, c3, r2, r3, -⟩ := bx2 w [.slice a l.length k, .bool s, .slice b m d, .slice b' m' d'] [.slice none 0 0, .bool false, .slice none 0 0, .slice none 0 0] 63 69
  have HW := Lib.hid hw1
  have C2 := Lib.hid c2
  have R2 : Hid (Rt w1 (w.heap.size + 1) 4 69) := by
    show Rt _ _ _ _
    rw [hw1]
    have := Rt.new (w.alloc (.cells #[.slice a l.length k, .bool s, .slice b m d, .slice b' m' d'] 63)) [.slice none 0 0, .bool false, .slice none 0 0, .slice none 0 0] 69
    simpa using this
  clear c2 c3 r2 r3 hw1
  go_enter Try.func33, Try.ntmps33
  go_upto_region 1 with (fail)
  rw [← HW.out]
  clear HW
  obtain ⟨j0, j1, j2, j3⟩ := C2.out.c4
  go_wp2_with fail
  refine (told_any (HRC.out.rd.ext b1) HSC.out).mono ?_
  rintro e w2 ⟨_, rfl, b2, o2⟩
  obtain ⟨s7, a7, l7, c7, a6, l6, c6, rfl, O2⟩ := o2.op
  clear o2 j0 j1 j2 j3
  obtain ⟨w3, hw3, b3, c3, hr3, -⟩ := bx1 w2 [.slice none 0 0, .bool s7, .slice a7 l7 c7, .slice a6 l6 c6] 69
  have HW := Lib.hid hw3
  have R3 : Hid (Rt w3 w2.heap.size 4 69) := by
    show Rt _ _ _ _
    rw [hw3]
    exact Rt.new w2 [.slice none 0 0, .bool s7, .slice a7 l7 c7, .slice a6 l6 c6] 69
  have C3 := Lib.hid c3
  clear hw3 c3 hr3
  go_upto_region 2 with (fail)
  rw [← HW.out]
  clear HW
  obtain ⟨BO, hBO⟩ : ∃ BO, w2.heap.size = BO := ⟨_, rfl⟩
  have h12 := b2.size
  rw [hBO] at R3 C3 ⊢
  have hBO1 : w1.heap.size ≤ BO := by omega
  clear hBO h12
  obtain ⟨j0, j1, j2, j3⟩ := (C2.out.ext (Ext.trans b2 b3)).c4
  go_wp2_with fail
  clear j0 j1 j2 j3
  go_loopw [13] (fun t wr => ∃ (j : Nat) (ao : Option Addr) (ko : Nat), t = .int .i64 j ∧ j ≤ l.length ∧ Ext w1 wr ∧ Hid (Bx wr BO [.slice ao (l.take j).length ko, .bool s7, .slice a7 l7 c7, .slice a6 l6 c6]) ∧ Hid (Rt wr BO 4 69) ∧ Hid (OwnP 4 0 wr (.agg #[.bool s7, .slice a7 l7 c7, .slice a6 l6 c6]) c) ∧ Hid (OwnRow 4 (OwnTp 4) 173 w1.heap.size wr (.slice ao (l.take j).length ko) (l.take j))) (fun t _ => l.length - (intOf t).toNat)
  case atStart => exact ⟨0, none, 0, rfl, Nat.zero_le _, Ext.trans b2 b3, by rw [List.take_zero]; exact C3.out, R3.out, (O2.out.mono (Nat.zero_le _)).ext b3, by rw [List.take_zero]; exact OwnRow.nil _ _ _⟩
  case round =>
    clear O2 C3 R3
    obtain ⟨j, ao, ko, rfl, hj, hx, hC, hRt, hQ, hO⟩ := hrel
    by_cases hjl : j < l.length
    · have hd : decide ((j : Int) < (l.length : Int)) = true := decide_eq_true (by omega)
      obtain ⟨bT, oT, rfl⟩ := HRW.out.some_at hjl
      obtain ⟨sx, ax, lx, mx, ay, ly, my, hB4, hQT⟩ := HRW.out.tm j hjl
      obtain ⟨u0, u1, u2, u3⟩ := hB4.ext (Ext.trans b1 hx)
      have hJ1 : IntKind.i64.wrap (j : Int) = (j : Int) := by rw [IntKind.wrap_i64]; omega
      have hJ2 : (0 : Int) ≤ (j : Int) ∧ (j : Int) < (l.length : Int) := ⟨by omega, by omega⟩
      have HSN := Lib.hid (take_snoc8 hjl)
      have HOL : Hid ((l.take j).length = j) := by show _ = _; rw [List.length_take]; omega
      have HSQ : Hid (Sz 1000000 (gt l j).2) := by show Sz _ _; rw [gt_lt hjl]; exact HS.out _ (List.getElem_mem hjl)
      obtain ⟨y, hy⟩ : ∃ y, (gt l j).1 = y := ⟨_, rfl⟩
      obtain ⟨q4, hq4⟩ : ∃ q4, (gt l j).2 = q4 := ⟨_, rfl⟩
      have hyq : gt l j = (y, q4) := Prod.ext hy hq4
      rw [hyq] at HSN
      rw [hq4] at HSQ
      rw [hy] at u0
      rw [hq4] at hQT
      have HQT := Lib.hid (hQT.ext (Ext.trans b1 hx))
      clear hy hq4 hyq hB4 hQT
      obtain ⟨ol, hol⟩ : ∃ ol, l.take j = ol := ⟨_, rfl⟩
      rw [hol] at hC hO HOL
      try rw [hol] at HSN
      clear hol
      obtain ⟨ol2, hol2⟩ : ∃ ol2, ol ++ [(y, q4)] = ol2 := ⟨_, rfl⟩
      have HS2 := Lib.hid hol2
      rw [hol2] at HSN
      clear hol2
      obtain ⟨w4, hw4, b4, c4, -, -⟩ := bx1 wr [.int .i64 y, .bool sx, .slice ax lx mx, .slice ay ly my] 84
      have HW := Lib.hid hw4
      have DT := Lib.hid c4
      clear hw4 c4
      go_upto_region 5 with (fail)
      rw [← HW.out]
      clear HW u0 u1 u2 u3
      have b14 := Ext.trans hx b4
      have DO := Lib.hid (hC.out.ext b4)
      have hRt4 := Lib.hid (hRt.out.ext b4)
      have HQ4 := Lib.hid (HQT.out.ext b4)
      have hO4 := Lib.hid (hO.out.ext OwnTp.ext b4)
      have hQ4 := Lib.hid (hQ.out.ext b4)
      have neO := hO.out.ne_rt hRt.out (by decide)
      have neT := hO.out.ne_new
      have b5 := drew_ext w4
      have XE := b5
      refine wp_region_noPanic ?_
      refine wp_region_last_drew (st := 11) (S := fun w' => (w'.cell? ⟨BO, 0, none⟩ = some (.slice ao ol.length ko)) ∧ (w'.cell? ⟨wr.heap.size, 0, none⟩ = some (.int .i64 y) ∧ w'.cell? ⟨wr.heap.size, 1, none⟩ = some (.bool sx) ∧ w'.cell? ⟨wr.heap.size, 2, none⟩ = some (.slice ax lx mx) ∧ w'.cell? ⟨wr.heap.size, 3, none⟩ = some (.slice ay ly my))) (by kernel_rfl) (⟨(DO.out.ext XE).c1, (DT.out.ext XE).c4⟩) (fun hHeld => ?_)
      refine wpAnyL_take (i := 0) (v := ?_) rfl (by kernel_rfl) (by kernel_rfl) (by kernel_rfl) (by kernel_rfl) (fun _ _ _ h => h) (Or.inl ⟨by rfl, fun w0 hSw => ?_⟩) hHeld ?_
      rotate_left
      · (try dsimp only at hSw)
        go_simp
        try with_reducible rfl
      simp only [Act.put, List.getElem_toArray, List.getElem_cons_succ, List.getElem_cons_zero, List.setIfInBounds_toArray, List.set_cons_zero, List.set_cons_succ]
      refine wpAnyL_take (i := 1) (v := ?_) rfl (by kernel_rfl) (by kernel_rfl) (by kernel_rfl) (by kernel_rfl) (fun _ _ _ h => h) (Or.inl ⟨by rfl, fun w0 hSw => ?_⟩) hHeld ?_
      rotate_left
      · (try dsimp only at hSw)
        go_simp
        try with_reducible rfl
      simp only [Act.put, List.getElem_toArray, List.getElem_cons_succ, List.getElem_cons_zero, List.setIfInBounds_toArray, List.set_cons_zero, List.set_cons_succ]
      refine wpAnyL_take (i := 2) (v := ?_) rfl (by kernel_rfl) (by kernel_rfl) (by kernel_rfl) (by kernel_rfl) (fun _ _ _ h => h) (Or.inl ⟨by rfl, fun w0 hSw => ?_⟩) hHeld ?_
      rotate_left
      · (try dsimp only at hSw)
        go_simp
        try with_reducible rfl
      simp only [Act.put, List.getElem_toArray, List.getElem_cons_succ, List.getElem_cons_zero, List.setIfInBounds_toArray, List.set_cons_zero, List.set_cons_succ]
      refine wpAnyL_take (i := 3) (v := ?_) rfl (by kernel_rfl) (by kernel_rfl) (by kernel_rfl) (by kernel_rfl) (fun _ _ _ h => h) (Or.inl ⟨by rfl, fun w0 hSw => ?_⟩) hHeld ?_
      rotate_left
      · (try dsimp only at hSw)
        go_simp
        try with_reducible rfl
      simp only [Act.put, List.getElem_toArray, List.getElem_cons_succ, List.getElem_cons_zero, List.setIfInBounds_toArray, List.set_cons_zero, List.set_cons_succ]
      refine wpAnyL_take (i := 4) (v := ?_) rfl (by kernel_rfl) (by kernel_rfl) (by kernel_rfl) (by kernel_rfl) (fun _ _ _ h => h) (Or.inl ⟨by rfl, fun w0 hSw => ?_⟩) hHeld ?_
      rotate_left
      · (try dsimp only at hSw)
        go_simp
        try with_reducible rfl
      simp only [Act.put, List.getElem_toArray, List.getElem_cons_succ, List.getElem_cons_zero, List.setIfInBounds_toArray, List.set_cons_zero, List.set_cons_succ]
      refine wpAnyL_take (i := 5) (v := ?_) rfl (by kernel_rfl) (by kernel_rfl) (by kernel_rfl) (by kernel_rfl) (fun _ _ _ h => h) (Or.inl ⟨by rfl, fun w0 hSw => ?_⟩) hHeld ?_
      rotate_left
      · (try dsimp only at hSw)
        go_simp
        try with_reducible rfl
      simp only [Act.put, List.getElem_toArray, List.getElem_cons_succ, List.getElem_cons_zero, List.setIfInBounds_toArray, List.set_cons_zero, List.set_cons_succ]
      refine wpAnyL_ready (rs := [6]) (by kernel_rfl) (by simp) ?_
      refine AllReadyL.cons (o := _) rfl (fun K hK => ?_) AllReadyL.nil
      go_simp
      go_at_call 25; refine (told_any (HQ4.out.rd.ext XE) HSQ.out).mono ?_; rintro e w6 ⟨v6, rfl, b6, o6⟩; have O6 := Lib.hid o6; clear o6; (first | have XE := Ext.trans XE b6 | have XE := Ext.trans (Ext.trans XE (Ext.alloc _ _)) b6); obtain ⟨s6, e6, n6, g6, f6, m6, h6, rfl, P6⟩ := O6.out.op
      go_wp2_with fail
      refine hK.out _ _ (⟨(DO.out.ext XE).c1, (DT.out.ext XE).c4⟩) (fun hHeld => ?_)
      clear hK K
      try simp only [Act.put, List.getElem_toArray, List.getElem_cons_succ, List.getElem_cons_zero, List.setIfInBounds_toArray, List.set_cons_zero, List.set_cons_succ]
      refine wpAnyL_take (i := 7) (v := ?_) rfl (by kernel_rfl) (by kernel_rfl) (by kernel_rfl) (by kernel_rfl) (fun _ _ _ h => h) (Or.inl ⟨by rfl, fun w0 hSw => ?_⟩) hHeld ?_
      rotate_left
      · (try dsimp only at hSw)
        go_simp
        try with_reducible rfl
      simp only [Act.put, List.getElem_toArray, List.getElem_cons_succ, List.getElem_cons_zero, List.setIfInBounds_toArray, List.set_cons_zero, List.set_cons_succ]
      refine wpAnyL_ready (rs := [8]) (by kernel_rfl) (by simp) ?_
      refine AllReadyL.cons (o := _) rfl (fun K hK => ?_) AllReadyL.nil
      go_simp
      refine hK.out _ _ (⟨(DO.out.ext (Ext.trans XE (Ext.alloc _ _))).c1, (DT.out.ext (Ext.trans XE (Ext.alloc _ _))).c4⟩) (fun hHeld => ?_)
      clear hK K
      try simp only [Act.put, List.getElem_toArray, List.getElem_cons_succ, List.getElem_cons_zero, List.setIfInBounds_toArray, List.set_cons_zero, List.set_cons_succ]
      refine wpAnyL_ready (rs := [9]) (by kernel_rfl) (by simp) ?_
      refine AllReadyL.cons (o := _) rfl (fun K hK => ?_) AllReadyL.nil
      refine if_wantedL rfl ?_
      refine append_row (y := (y, q4)) etTp8 (kdTP (e := 4) (by decide)) _ _ (by rfl) w1.heap.size (by rfl) _ (by rfl) (hO4.out.ext OwnTp.ext XE) rfl ⟨_, _, _, rfl, P6.out.mono (Nat.zero_le _)⟩ (Below.size (Ext.trans hx (Ext.trans b4 XE))) (by have := HOL.out; omega) (by have := HOL.out; unfold maxLen; omega) ?_
      intro v9 w9 o9 b9 g9
      have xA := Ext.trans XE (Ext.alloc w6 (.cells #[.int .i64 y, .bool s6, .slice e6 n6 g6, .slice f6 m6 h6] 173))
      have RO9 := Lib.hid ((hRt4.out.ext xA).grow g9 neO)
      have DO9 := Lib.hid ((DO.out.ext xA).grow g9 neO)
      obtain ⟨nn, xs, hown⟩ := ((hO4.out.ext OwnTp.ext xA)).own
      have HQ9 := Lib.hid (OwnP.grown (hQ4.out.ext xA) hown (by decide) g9)
      have XW := Below.trans (Ext.trans hx b4) (Below.trans (Below.mono XE (Below.size (Ext.trans hx b4))) b9)
      rw [HS2.out] at o9
      obtain ⟨a11, k11, rfl, -, -⟩ := o9.rd.shape
      refine hK.out _ _ ⟨DO9.out.c1, ((DT.out.ext xA).grow g9 neT).c4⟩ (fun hHeld => ?_)
      clear hK K
      try simp only [Act.put, List.getElem_toArray, List.getElem_cons_succ, List.getElem_cons_zero, List.setIfInBounds_toArray, List.set_cons_zero, List.set_cons_succ]
      refine wpAnyL_take (i := 10) (v := ?_) rfl (by kernel_rfl) (by kernel_rfl) (by kernel_rfl) (by kernel_rfl) (fun _ _ _ h => h) (Or.inl ⟨by rfl, fun w0 hSw => ?_⟩) hHeld ?_
      rotate_left
      · (try dsimp only at hSw)
        go_simp
        try with_reducible rfl
      simp only [Act.put, List.getElem_toArray, List.getElem_cons_succ, List.getElem_cons_zero, List.setIfInBounds_toArray, List.set_cons_zero, List.set_cons_succ]
      obtain ⟨_, _, _, _, n0, n1, n2, n3, i0, i1, i2, i3⟩ := RO9.out.c4
      refine wpAnyL_ready (rs := [11]) (by kernel_rfl) (by simp) ?_
      refine AllReadyL.last (o := _) rfl (fun K hK => ?_)
      go_simp
      refine hK.out _ _ ?_
      clear hK K
      try simp only [Act.put, List.getElem_toArray, List.getElem_cons_succ, List.getElem_cons_zero, List.setIfInBounds_toArray, List.set_cons_zero, List.set_cons_succ]
      refine wpAnyL_done (by kernel_rfl) ?_ _
      refine NoPanic.normal ?_
      go_wp2_with fail
      go_roundw
      case rel => exact ⟨j + 1, a11, k11, by go_num, by omega, putL_below hBO1 [_] 0 XW, by
        show Hid (Bx _ BO [.slice a11 (l.take (j + 1)).length k11, _, _, _])
        rw [HSN.out]
        exact DO9.out.set0 RO9.out (by decide) _, RO9.out.set0 _, HQ9.out.putT RO9.out (by decide) 0 [_], by
        show Hid (OwnRow _ _ _ _ _ (.slice a11 (l.take (j + 1)).length k11) (l.take (j + 1)))
        rw [HSN.out]
        exact o9.putT RO9.out (by decide) 0 [_] (fun v a h => h.putT RO9.out (by decide) 0 [_])⟩
      case measure => simp [intOf] <;> omega
    · obtain rfl : j = l.length := by omega
      have hd : decide ((l.length : Int) < (l.length : Int)) = false := decide_eq_false (by omega)
      rw [List.take_length] at hC hO
      obtain ⟨k0, k1, k2, k3⟩ := hC.out.c4
      have RR := Lib.hid (R2.out.ext hx)
      have h01 : w.heap.size ≤ w1.heap.size := Below.size b1
      obtain ⟨_, _, _, _, j0, j1, j2, j3, i0, i1, i2, i3⟩ := RR.out.c4
      go_wp2_with fail
      refine bodyPost_ret (v := .agg #[.slice ao l.length ko, .bool s7, .slice a7 l7 c7, .slice a6 l6 c6]) (by simp [results, Try.results33, go_sem, j0, j1, j2, j3]) rfl ?_
      exact hR.out _ _ (Gives.mk (put4_below (Ext.trans b1 hx) (by omega) _ _ _ _ _) (OwnEy.putT ⟨_, _, _, _, rfl, hO.out.mono h01, hQ.out⟩ RR.out (by decide) (by decide) 0 [_, _, _, _]))
end Go.Proofs.Ytnbbhpihlcglgaa
