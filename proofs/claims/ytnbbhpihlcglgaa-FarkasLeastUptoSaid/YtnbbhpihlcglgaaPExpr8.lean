/- attestlaw08.Expr -/
import Derived.Test.YtnbbhpihlcglgaaLinPlain
import Derived.Test.YtnbbhpihlcglgaaLinAll
import Derived.Test.YtnbbhpihlcglgaaPTold
namespace Go.Proofs.Ytnbbhpihlcglgaa
open Go.RowKit Go.Att

theorem of8_p {w : World} {v : Value} {n : NN} (h : RdNp w v n) (hn : Nlt 1000000000 n) : Calls Try.prog 18 #[v] w (Gives w fun v' w' => OwnQ 163 w.heap.size w' v' (qN n)) := of8_any h hn.1 hn.2
theorem tL_snoc {l : List (Int × NN)} {j : Nat} (hj : j < l.length) : (l.take (j + 1)).map qT = (l.take j).map qT ++ [(l[j].1, qN l[j].2)] := by
  rw [← List.take_append_getElem hj, List.map_append]; rfl
set_option linter.unusedSimpArgs false in
set_option maxHeartbeats 4000000 in
set_option maxRecDepth 100000 in
theorem expr8_any {w : World} {v : Value} {l : List (Int × NN)} {n : NN} (hv : RdNE w v l n) (hs : ∀ t ∈ l, Nlt 1000000000 t.2) (hn : Nlt 1000000000 n) :
    Calls Try.prog 31 #[v] w (Gives w fun v' w' => OwnX w.heap.size w' v' (tL l) (qN n)) := by
  refine via fun R hR => ?_
  unfold tL at hR
  have HS := Lib.hid hs
  have HN := Lib.hid hn
  obtain ⟨sl, y, z, rfl, hrow, hc⟩ := hv
  obtain ⟨a, k, rfl, hlk, hkm⟩ := hrow.shape
  unfold maxLen at hkm
  have HRW := Lib.hid hrow
  have HRC := Lib.hid hc
  obtain ⟨sg, hsg⟩ : ∃ sg, n.1 = sg := ⟨_, rfl⟩
  rw [hsg] at HRC ⊢
  clear hrow hc hs hn hsg
  obtain ⟨w1, hw1, b1, c2, c3, r2, r3, -⟩ := bx2 w [.slice a l.length k, .bool sg, y, z] [.slice none 0 0, .bool false, .slice none 0 0, .slice none 0 0] 60 63
  have HW := Lib.hid hw1
  have C2 := Lib.hid c2
  have R2 : Hid (Rt w1 (w.heap.size + 1) 4 63) := by
    show Rt _ _ _ _
    rw [hw1]
    have := Rt.new (w.alloc (.cells #[.slice a l.length k, .bool sg, y, z] 60)) [.slice none 0 0, .bool false, .slice none 0 0, .slice none 0 0] 63
    simpa using this
  clear c2 c3 r2 r3 hw1
  go_enter Try.func31, Try.ntmps31
  go_upto_region 1 with (fail)
  rw [← HW.out]
  clear HW
  obtain ⟨j0, j1, j2, j3⟩ := C2.out.c4
  go_wp2_with fail
  refine (of8_p (HRC.out.ext b1) HN.out).mono ?_
  rintro e w2 ⟨_, rfl, b2, o2⟩
  obtain ⟨s7, a7, l7, c7, a6, l6, c6, rfl, O2⟩ := o2.op
  clear o2 j0 j1 j2 j3
  obtain ⟨w3, hw3, b3, c3, hr3, -⟩ := bx1 w2 [.slice none 0 0, .bool s7, .slice a7 l7 c7, .slice a6 l6 c6] 63
  have HW := Lib.hid hw3
  have R3 : Hid (Rt w3 w2.heap.size 4 63) := by
    show Rt _ _ _ _
    rw [hw3]
    exact Rt.new w2 [.slice none 0 0, .bool s7, .slice a7 l7 c7, .slice a6 l6 c6] 63
  have C3 := Lib.hid c3
  clear hw3 c3 hr3
  go_upto_region 2 with (fail)
  rw [← HW.out]
  clear HW
  obtain ⟨BO, hBO⟩ : ∃ BO, w2.heap.size = BO := ⟨_, rfl⟩
  have h12 := b2.size
  rw [hBO] at R3 C3 ⊢
  have hBO1 : w1.heap.size ≤ BO := by omega
  clear hBO h12
  generalize qN n = c at *
  go_wp2_with fail
  go_loopw [4] (fun t wr => ∃ (j : Nat) (ao : Option Addr) (ko : Nat), t = .int .i64 j ∧ j ≤ l.length ∧ j ≤ 12 ∧ Ext w1 wr ∧ Hid (Bx wr BO [.slice ao ((l.take j).map qT).length ko, .bool s7, .slice a7 l7 c7, .slice a6 l6 c6]) ∧ Hid (Rt wr BO 4 63) ∧ Hid (OwnQ 163 0 wr (.agg #[.bool s7, .slice a7 l7 c7, .slice a6 l6 c6]) c) ∧ Hid (OwnRow 4 (OwnTm 163) 84 w1.heap.size wr (.slice ao ((l.take j).map qT).length ko) ((l.take j).map qT))) (fun t _ => l.length - (intOf t).toNat)
  case atStart => exact ⟨0, none, 0, rfl, Nat.zero_le _, Nat.zero_le _, Ext.trans b2 b3, by rw [List.take_zero]; exact C3.out, R3.out, (O2.out.mono (Nat.zero_le _)).ext b3, by rw [List.take_zero]; exact OwnRow.nil _ _ _⟩
  case round =>
    clear O2 C3 R3
    obtain ⟨j, ao, ko, rfl, hj, hj12, hx, hC, hRt, hQ, hO⟩ := hrel
    obtain ⟨j0, j1, j2, j3⟩ := (C2.out.ext hx).c4
    by_cases hjl : j < l.length
    · have hd : decide ((j : Int) < (l.length : Int)) = true := decide_eq_true (by omega)
      have hd' : decide (j < l.length) = true := decide_eq_true hjl
      by_cases hj2 : j < 12
      · have hd2 : decide ((j : Int) < 12) = true := decide_eq_true (by omega)
        obtain ⟨bT, oT, rfl⟩ := HRW.out.some_atN hjl
        obtain ⟨yy, zz, hB4, hQT⟩ := HRW.out.nt j hjl
        have hJ1 : IntKind.i64.wrap (j : Int) = (j : Int) := by rw [IntKind.wrap_i64]; omega
        have hJ2 : (0 : Int) ≤ (j : Int) ∧ (j : Int) < (l.length : Int) := ⟨by omega, by omega⟩
        have HSN := Lib.hid (tL_snoc hjl)
        have HOL : Hid (((l.take j).map qT).length = j) := by show _ = _; rw [List.length_map, List.length_take]; omega
        have HSQ : Hid (Nlt 1000000000 l[j].2) := HS.out _ (List.getElem_mem hjl)
        have HQT := Lib.hid (RdNp.ext hQT (Ext.trans b1 hx))
        have DB := Lib.hid (hB4.ext (Ext.trans b1 hx))
        have DBX := Lib.hid (hB4.ext b1)
        obtain ⟨u, hu⟩ : ∃ u, l[j].1 = u := ⟨_, rfl⟩
        obtain ⟨q4, hq4⟩ : ∃ q4, qN l[j].2 = q4 := ⟨_, rfl⟩
        have HOF : Hid (∀ w v, RdNp w v l[j].2 → Calls Try.prog 18 #[v] w (Gives w fun v' w' => OwnQ 163 w.heap.size w' v' q4)) := fun w v h => hq4 ▸ of8_p h HSQ.out
        rw [hu] at DB DBX HSN
        rw [hq4] at HSN
        generalize l[j].2 = nn4 at *
        obtain ⟨sb, hsb⟩ : ∃ sb, nn4.1 = sb := ⟨_, rfl⟩
        rw [hsb] at DB DBX HQT
        clear hB4 hQT hu hsb
        obtain ⟨ol, hol⟩ : ∃ ol, (l.take j).map qT = ol := ⟨_, rfl⟩
        rw [hol] at hC hO HOL HSN
        clear hol
        obtain ⟨ol2, hol2⟩ : ∃ ol2, ol ++ [(u, q4)] = ol2 := ⟨_, rfl⟩
        have HS2 := Lib.hid hol2
        rw [hol2] at HSN
        clear hol2
        obtain ⟨w4, hw4⟩ : ∃ w0 : World, w0 = wr := ⟨_, rfl⟩
        subst hw4
        have C24 := Lib.hid (C2.out.ext hx)
        have neO := hO.out.ne_rt hRt.out (by decide)
        go_wp2_with fail
        clear j0 j1 j2 j3
        have b5 := drew_ext w4
        have XE := b5
        refine wp_region_noPanic ?_
        refine wp_region_last_drew (st := 19) (S := fun w' => (w'.cell? ⟨BO, 0, none⟩ = some (.slice ao ol.length ko)) ∧ (w'.cell? ⟨w.heap.size, 0, none⟩ = some (.slice (some ⟨bT, oT, none⟩) l.length k)) ∧ (w'.cell? ⟨bT, oT + j * 4, none⟩ = some (.int .i64 u) ∧ w'.cell? ⟨bT, oT + j * 4 + 1, none⟩ = some (.bool sb) ∧ w'.cell? ⟨bT, oT + j * 4 + 2, none⟩ = some (yy) ∧ w'.cell? ⟨bT, oT + j * 4 + 3, none⟩ = some (zz))) (by kernel_rfl) (⟨(hC.out.ext XE).c1, (C24.out.ext XE).c1, DB.out.ext XE⟩) (fun hHeld => ?_)
        refine wpAnyL_take (i := 0) (v := ?_) rfl (by kernel_rfl) (by kernel_rfl) (by kernel_rfl) (by kernel_rfl) (fun _ _ _ h => h) (Or.inl ⟨by rfl, fun w0 hSw => ?_⟩) hHeld ?_
        rotate_left
        · (try dsimp only at hSw)
          go_simp
          try with_reducible rfl
        simp only [Act.put, List.getElem_toArray, List.getElem_cons_succ, List.getElem_cons_zero, List.setIfInBounds_toArray, List.set_cons_zero, List.set_cons_succ]
        refine wpAnyL_take (i := 1) (v := ?_) rfl (by kernel_rfl) (by kernel_rfl) (by kernel_rfl) (by kernel_rfl) (fun _ _ _ h => h) (Or.inl ⟨by rfl, fun w0 hSw => ?_⟩) hHeld ?_
        rotate_left
        · (try dsimp only at hSw)
          go_simp
          try with_reducible rfl
        simp only [Act.put, List.getElem_toArray, List.getElem_cons_succ, List.getElem_cons_zero, List.setIfInBounds_toArray, List.set_cons_zero, List.set_cons_succ]
        refine wpAnyL_take (i := 2) (v := ?_) rfl (by kernel_rfl) (by kernel_rfl) (by kernel_rfl) (by kernel_rfl) (fun _ _ _ h => h) (Or.inl ⟨by rfl, fun w0 hSw => ?_⟩) hHeld ?_
        rotate_left
        · (try dsimp only at hSw)
          go_simp
          try with_reducible rfl
        simp only [Act.put, List.getElem_toArray, List.getElem_cons_succ, List.getElem_cons_zero, List.setIfInBounds_toArray, List.set_cons_zero, List.set_cons_succ]
        refine wpAnyL_take (i := 3) (v := ?_) rfl (by kernel_rfl) (by kernel_rfl) (by kernel_rfl) (by kernel_rfl) (fun _ _ _ h => h) (Or.inl ⟨by rfl, fun w0 hSw => ?_⟩) hHeld ?_
        rotate_left
        · (try dsimp only at hSw)
          go_simp
          try with_reducible rfl
        simp only [Act.put, List.getElem_toArray, List.getElem_cons_succ, List.getElem_cons_zero, List.setIfInBounds_toArray, List.set_cons_zero, List.set_cons_succ]
        refine wpAnyL_take (i := 4) (v := ?_) rfl (by kernel_rfl) (by kernel_rfl) (by kernel_rfl) (by kernel_rfl) (fun _ _ _ h => h) (Or.inl ⟨by rfl, fun w0 hSw => ?_⟩) hHeld ?_
        rotate_left
        · (try dsimp only at hSw)
          go_simp
          try with_reducible rfl
        simp only [Act.put, List.getElem_toArray, List.getElem_cons_succ, List.getElem_cons_zero, List.setIfInBounds_toArray, List.set_cons_zero, List.set_cons_succ]
        refine wpAnyL_take (i := 5) (v := ?_) rfl (by kernel_rfl) (by kernel_rfl) (by kernel_rfl) (by kernel_rfl) (fun _ _ _ h => h) (Or.inl ⟨by rfl, fun w0 hSw => ?_⟩) hHeld ?_
        rotate_left
        · (try dsimp only at hSw)
          go_simp
          try with_reducible rfl
        simp only [Act.put, List.getElem_toArray, List.getElem_cons_succ, List.getElem_cons_zero, List.setIfInBounds_toArray, List.set_cons_zero, List.set_cons_succ]
        refine wpAnyL_take (i := 6) (v := ?_) rfl (by kernel_rfl) (by kernel_rfl) (by kernel_rfl) (by kernel_rfl) (fun _ _ _ h => h) (Or.inl ⟨by rfl, fun w0 hSw => ?_⟩) hHeld ?_
        rotate_left
        · (try dsimp only at hSw)
          go_simp
          try with_reducible rfl
        simp only [Act.put, List.getElem_toArray, List.getElem_cons_succ, List.getElem_cons_zero, List.setIfInBounds_toArray, List.set_cons_zero, List.set_cons_succ]
        refine wpAnyL_take (i := 7) (v := ?_) rfl (by kernel_rfl) (by kernel_rfl) (by kernel_rfl) (by kernel_rfl) (fun _ _ _ h => h) (Or.inl ⟨by rfl, fun w0 hSw => ?_⟩) hHeld ?_
        rotate_left
        · (try dsimp only at hSw)
          go_simp
          try with_reducible rfl
        simp only [Act.put, List.getElem_toArray, List.getElem_cons_succ, List.getElem_cons_zero, List.setIfInBounds_toArray, List.set_cons_zero, List.set_cons_succ]
        refine wpAnyL_take (i := 8) (v := ?_) rfl (by kernel_rfl) (by kernel_rfl) (by kernel_rfl) (by kernel_rfl) (fun _ _ _ h => h) (Or.inl ⟨by rfl, fun w0 hSw => ?_⟩) hHeld ?_
        rotate_left
        · (try dsimp only at hSw)
          go_simp
          try with_reducible rfl
        simp only [Act.put, List.getElem_toArray, List.getElem_cons_succ, List.getElem_cons_zero, List.setIfInBounds_toArray, List.set_cons_zero, List.set_cons_succ]
        refine wpAnyL_take (i := 9) (v := ?_) rfl (by kernel_rfl) (by kernel_rfl) (by kernel_rfl) (by kernel_rfl) (fun _ _ _ h => h) (Or.inl ⟨by rfl, fun w0 hSw => ?_⟩) hHeld ?_
        rotate_left
        · (try dsimp only at hSw)
          go_simp
          try with_reducible rfl
        simp only [Act.put, List.getElem_toArray, List.getElem_cons_succ, List.getElem_cons_zero, List.setIfInBounds_toArray, List.set_cons_zero, List.set_cons_succ]
        refine wpAnyL_take (i := 10) (v := ?_) rfl (by kernel_rfl) (by kernel_rfl) (by kernel_rfl) (by kernel_rfl) (fun _ _ _ h => h) (Or.inl ⟨by rfl, fun w0 hSw => ?_⟩) hHeld ?_
        rotate_left
        · (try dsimp only at hSw)
          go_simp
          try with_reducible rfl
        simp only [Act.put, List.getElem_toArray, List.getElem_cons_succ, List.getElem_cons_zero, List.setIfInBounds_toArray, List.set_cons_zero, List.set_cons_succ]
        refine wpAnyL_take (i := 11) (v := ?_) rfl (by kernel_rfl) (by kernel_rfl) (by kernel_rfl) (by kernel_rfl) (fun _ _ _ h => h) (Or.inl ⟨by rfl, fun w0 hSw => ?_⟩) hHeld ?_
        rotate_left
        · (try dsimp only at hSw)
          go_simp
          try with_reducible rfl
        simp only [Act.put, List.getElem_toArray, List.getElem_cons_succ, List.getElem_cons_zero, List.setIfInBounds_toArray, List.set_cons_zero, List.set_cons_succ]
        refine wpAnyL_take (i := 12) (v := ?_) rfl (by kernel_rfl) (by kernel_rfl) (by kernel_rfl) (by kernel_rfl) (fun _ _ _ h => h) (Or.inl ⟨by rfl, fun w0 hSw => ?_⟩) hHeld ?_
        rotate_left
        · (try dsimp only at hSw)
          go_simp
          try with_reducible rfl
        simp only [Act.put, List.getElem_toArray, List.getElem_cons_succ, List.getElem_cons_zero, List.setIfInBounds_toArray, List.set_cons_zero, List.set_cons_succ]
        refine wpAnyL_take (i := 13) (v := ?_) rfl (by kernel_rfl) (by kernel_rfl) (by kernel_rfl) (by kernel_rfl) (fun _ _ _ h => h) (Or.inl ⟨by rfl, fun w0 hSw => ?_⟩) hHeld ?_
        rotate_left
        · (try dsimp only at hSw)
          go_simp
          try with_reducible rfl
        simp only [Act.put, List.getElem_toArray, List.getElem_cons_succ, List.getElem_cons_zero, List.setIfInBounds_toArray, List.set_cons_zero, List.set_cons_succ]
        refine wpAnyL_ready (rs := [14]) (by kernel_rfl) (by simp) ?_
        refine AllReadyL.cons (o := _) rfl (fun K hK => ?_) AllReadyL.nil
        go_simp
        go_at_call 18; refine (HOF.out _ _ (RdNp.ext HQT.out XE)).mono ?_; rintro e w6 ⟨v6, rfl, b6, o6⟩; have O6 := Lib.hid o6; clear o6; (first | have XE := Ext.trans XE b6 | have XE := Ext.trans (Ext.trans XE (Ext.alloc _ _)) b6); obtain ⟨s6, e6, n6, g6, f6, m6, h6, rfl, P6⟩ := O6.out.op
        go_wp2_with fail
        refine hK.out _ _ (⟨(hC.out.ext XE).c1, (C24.out.ext XE).c1, DB.out.ext XE⟩) (fun hHeld => ?_)
        clear hK K
        try simp only [Act.put, List.getElem_toArray, List.getElem_cons_succ, List.getElem_cons_zero, List.setIfInBounds_toArray, List.set_cons_zero, List.set_cons_succ]
        refine wpAnyL_take (i := 15) (v := ?_) rfl (by kernel_rfl) (by kernel_rfl) (by kernel_rfl) (by kernel_rfl) (fun _ _ _ h => h) (Or.inl ⟨by rfl, fun w0 hSw => ?_⟩) hHeld ?_
        rotate_left
        · (try dsimp only at hSw)
          go_simp
          try with_reducible rfl
        simp only [Act.put, List.getElem_toArray, List.getElem_cons_succ, List.getElem_cons_zero, List.setIfInBounds_toArray, List.set_cons_zero, List.set_cons_succ]
        refine wpAnyL_ready (rs := [16]) (by kernel_rfl) (by simp) ?_
        refine AllReadyL.cons (o := _) rfl (fun K hK => ?_) AllReadyL.nil
        go_simp
        refine hK.out _ _ (⟨(hC.out.ext (Ext.trans XE (Ext.alloc _ _))).c1, (C24.out.ext (Ext.trans XE (Ext.alloc _ _))).c1, DB.out.ext (Ext.trans XE (Ext.alloc _ _))⟩) (fun hHeld => ?_)
        clear hK K
        try simp only [Act.put, List.getElem_toArray, List.getElem_cons_succ, List.getElem_cons_zero, List.setIfInBounds_toArray, List.set_cons_zero, List.set_cons_succ]
        refine wpAnyL_ready (rs := [17]) (by kernel_rfl) (by simp) ?_
        refine AllReadyL.cons (o := _) rfl (fun K hK => ?_) AllReadyL.nil
        refine if_wantedL rfl ?_
        refine append_row (y := (u, q4)) etTm (kdT (e := 163) (by decide)) _ _ (by rfl) w1.heap.size (by rfl) _ (by rfl) (hO.out.ext OwnTm.ext XE) rfl ⟨_, _, _, rfl, P6.out.mono (Nat.zero_le _)⟩ (Below.size (Ext.trans hx XE)) (by have := HOL.out; omega) (by have := HOL.out; unfold maxLen; omega) ?_
        intro v9 w9 o9 b9 g9
        have xA := Ext.trans XE (Ext.alloc w6 (.cells #[.int .i64 u, .bool s6, .slice e6 n6 g6, .slice f6 m6 h6] 84))
        have RO9 := Lib.hid ((hRt.out.ext xA).grow g9 neO)
        have DO9 := Lib.hid ((hC.out.ext xA).grow g9 neO)
        obtain ⟨nn, xs, hown⟩ := ((hO.out.ext OwnTm.ext xA)).own
        have HQ9 := Lib.hid (OwnQ.grown (hQ.out.ext xA) hown (by decide) g9)
        have XW := Below.trans hx (Below.trans (Below.mono XE (Below.size hx)) b9)
        have DB9 := DBX.out.ext (show Ext w1 w9 from XW)
        rw [HS2.out] at o9
        obtain ⟨a11, k11, rfl, -, -⟩ := o9.rd.shape
        refine hK.out _ _ ⟨DO9.out.c1, (C2.out.ext (show Ext w1 w9 from XW)).c1, DB9⟩ (fun hHeld => ?_)
        clear hK K
        try simp only [Act.put, List.getElem_toArray, List.getElem_cons_succ, List.getElem_cons_zero, List.setIfInBounds_toArray, List.set_cons_zero, List.set_cons_succ]
        refine wpAnyL_take (i := 18) (v := ?_) rfl (by kernel_rfl) (by kernel_rfl) (by kernel_rfl) (by kernel_rfl) (fun _ _ _ h => h) (Or.inl ⟨by rfl, fun w0 hSw => ?_⟩) hHeld ?_
        rotate_left
        · (try dsimp only at hSw)
          go_simp
          try with_reducible rfl
        simp only [Act.put, List.getElem_toArray, List.getElem_cons_succ, List.getElem_cons_zero, List.setIfInBounds_toArray, List.set_cons_zero, List.set_cons_succ]
        obtain ⟨_, _, _, _, n0, n1, n2, n3, i0, i1, i2, i3⟩ := RO9.out.c4
        refine wpAnyL_ready (rs := [19]) (by kernel_rfl) (by simp) ?_
        refine AllReadyL.last (o := _) rfl (fun K hK => ?_)
        go_simp
        refine hK.out _ _ ?_
        clear hK K
        try simp only [Act.put, List.getElem_toArray, List.getElem_cons_succ, List.getElem_cons_zero, List.setIfInBounds_toArray, List.set_cons_zero, List.set_cons_succ]
        refine wpAnyL_done (by kernel_rfl) ?_ _
        refine NoPanic.normal ?_
        go_wp2_with fail
        go_roundw
        case rel => exact ⟨j + 1, a11, k11, by go_num, by omega, by omega, putL_below hBO1 [_] 0 XW, by
          rw [HSN.out]
          exact DO9.out.set0 RO9.out (by decide) _, RO9.out.set0 _, HQ9.out.putT RO9.out (by decide) 0 [_], by
          rw [HSN.out]
          exact o9.putT RO9.out (by decide) 0 [_] (fun v a h => h.putT RO9.out (by decide) 0 [_])⟩
        case measure => simp [intOf] <;> omega
      · have hd2 : decide ((j : Int) < 12) = false := decide_eq_false (by omega)
        have HT12 : Hid ((l.take j).map qT = (l.take 12).map qT) := (by show _ = _; rw [show j = 12 by omega])
        rw [HT12.out] at hC hO
        clear j0 j1 j2 j3
        generalize (l.take 12).map qT = ol at *
        obtain ⟨k0, k1, k2, k3⟩ := hC.out.c4
        obtain ⟨j0, j1, j2, j3⟩ := (C2.out.ext hx).c4
        have RR := Lib.hid (R2.out.ext hx)
        have h01 : w.heap.size ≤ w1.heap.size := Below.size b1
        obtain ⟨_, _, _, _, n0, n1, n2, n3, i0, i1, i2, i3⟩ := RR.out.c4
        go_wp2_with fail
        refine bodyPost_ret (v := .agg #[.slice ao ol.length ko, .bool s7, .slice a7 l7 c7, .slice a6 l6 c6]) (by simp [results, Try.results31, go_sem, n0, n1, n2, n3]) rfl ?_
        exact hR.out _ _ (Gives.mk (put4_below (Ext.trans b1 hx) (by omega) _ _ _ _ _) (OwnEx.putT ⟨_, _, _, _, rfl, hO.out.mono h01, hQ.out⟩ RR.out (by decide) (by decide) 0 [_, _, _, _]))
    · have hd : decide ((j : Int) < (l.length : Int)) = false := decide_eq_false (by omega)
      have hd' : decide (j < l.length) = false := decide_eq_false hjl
      have HT12 : Hid ((l.take j).map qT = (l.take 12).map qT) := (by show _ = _; rw [List.take_of_length_le (show l.length ≤ j by omega), List.take_of_length_le (show l.length ≤ 12 by omega)])
      rw [HT12.out] at hC hO
      clear j0 j1 j2 j3
      generalize (l.take 12).map qT = ol at *
      obtain ⟨k0, k1, k2, k3⟩ := hC.out.c4
      obtain ⟨j0, j1, j2, j3⟩ := (C2.out.ext hx).c4
      have RR := Lib.hid (R2.out.ext hx)
      have h01 : w.heap.size ≤ w1.heap.size := Below.size b1
      obtain ⟨_, _, _, _, n0, n1, n2, n3, i0, i1, i2, i3⟩ := RR.out.c4
      go_wp2_with fail
      refine bodyPost_ret (v := .agg #[.slice ao ol.length ko, .bool s7, .slice a7 l7 c7, .slice a6 l6 c6]) (by simp [results, Try.results31, go_sem, n0, n1, n2, n3]) rfl ?_
      exact hR.out _ _ (Gives.mk (put4_below (Ext.trans b1 hx) (by omega) _ _ _ _ _) (OwnEx.putT ⟨_, _, _, _, rfl, hO.out.mono h01, hQ.out⟩ RR.out (by decide) (by decide) 0 [_, _, _, _]))
end Go.Proofs.Ytnbbhpihlcglgaa
