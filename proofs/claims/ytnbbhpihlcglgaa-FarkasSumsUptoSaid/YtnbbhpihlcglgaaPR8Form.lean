/- attestref08.Form -/
import Derived.Test.YtnbbhpihlcglgaaPR8Coef
namespace Go.Proofs.Ytnbbhpihlcglgaa
open Go.RowKit Go.Att

theorem form_take_iff {l : TL} {j : Nat} (h : FormT (l.take j)) (hj : j < l.length) : FormT (l.take (j + 1)) ↔ (gt l j).2 ≠ 0 ∧ (0 < j → (gt l (j - 1)).1 < (gt l j).1) := by
  rw [← List.take_append_getElem hj, ← gt_lt hj]
  constructor
  · intro h2
    refine ⟨h2.2 _ (List.mem_append_right _ List.mem_cons_self), fun h0 => ?_⟩
    have h3 := (List.pairwise_append.1 h2.1).2.2
    refine h3 _ ?_ _ List.mem_cons_self
    rw [gt_lt (show j - 1 < l.length by omega)]
    exact List.mem_take_iff_getElem.2 ⟨j - 1, by omega, rfl⟩
  · rintro ⟨h2, h3⟩
    refine h.snoc (fun u hu => ?_) h2
    obtain ⟨i, hi, rfl⟩ := List.mem_take_iff_getElem.1 hu
    have hi' : i < j := by omega
    have h4 := h3 (by omega)
    by_cases hij : i = j - 1
    · subst hij
      rwa [gt_lt (show j - 1 < l.length by omega)] at h4
    · have h5 := List.pairwise_iff_getElem.1 h.1 i (j - 1) (by rw [List.length_take]; omega) (by rw [List.length_take]; omega) (by omega)
      simp only [List.getElem_take] at h5
      rw [gt_lt (show j - 1 < l.length by omega)] at h4
      omega
theorem FormT.no {l : TL} {j : Nat} (h : FormT (l.take j)) (hj : j < l.length) (hn : ¬ ((gt l j).2 ≠ 0 ∧ (0 < j → (gt l (j - 1)).1 < (gt l j).1))) : ¬ FormT l := fun h2 => hn ((form_take_iff h hj).1 (FormT.take h2 _))
set_option linter.unusedSimpArgs false in
set_option maxHeartbeats 4000000 in
set_option maxRecDepth 100000 in
theorem r8form_any {w : World} {v : Value} {l : TL} {c : Rat} (hv : RdY w v l c) (hl : l.length ≤ 100000) :
    Calls Try.prog 99 #[v] w (Gives w fun v' _ => ∃ t : Bool, v' = .bool t ∧ (t = true ↔ FormT l)) := by
  refine via fun R hR => ?_
  obtain ⟨a, k, s, b, m, d, b', m', d', rfl, hlk, hkm, HRW, HRC⟩ := hv.op
  clear hv
  obtain ⟨w1, hw1, b1, c1, -, -⟩ := bx1 w [.slice a l.length k, .bool s, .slice b m d, .slice b' m' d'] 69
  have HW := Lib.hid hw1
  have C1 := Lib.hid c1
  clear c1 hw1
  go_enter Try.func99, Try.ntmps99
  go_upto_region 1 with (fail)
  rw [← HW.out]
  clear HW
  have k0 := C1.out.c1
  go_wp2_with fail
  clear k0
  go_loopw [8] (fun t wr => ∃ j : Nat, t = .int .i64 j ∧ j ≤ l.length ∧ Ext w1 wr ∧ Hid (FormT (l.take j))) (fun t _ => l.length - (intOf t).toNat)
  case atStart => exact ⟨0, rfl, Nat.zero_le _, Ext.refl _, by rw [List.take_zero]; exact FormT.nil⟩
  case round =>
    obtain ⟨j, rfl, hj, hx, hF⟩ := hrel
    by_cases hjl : j < l.length
    · have hd : decide ((j : Int) < (l.length : Int)) = true := decide_eq_true (by omega)
      obtain ⟨bT, oT, rfl⟩ := HRW.out.some_atP hjl
      obtain ⟨sx, ax, lx, mx, ay, ly, my, hB4, hQ4⟩ := HRW.out.tp j hjl
      have b0r := Ext.trans b1 hx
      obtain ⟨u0, u1, u2, u3⟩ := hB4.ext b0r
      have hJ1 : IntKind.i64.wrap (j : Int) = (j : Int) := by rw [IntKind.wrap_i64]; omega
      have hJ2 : (0 : Int) ≤ (j : Int) ∧ (j : Int) < (l.length : Int) := ⟨by omega, by omega⟩
      have HIF := Lib.hid (form_take_iff hF.out hjl)
      have HNO := Lib.hid (FormT.no hF.out hjl)
      obtain ⟨y, hy⟩ : ∃ y, (gt l j).1 = y := ⟨_, rfl⟩
      obtain ⟨q4, hq4⟩ : ∃ q4, (gt l j).2 = q4 := ⟨_, rfl⟩
      rw [hy, hq4] at HIF HNO
      rw [hy] at u0
      rw [hq4] at hQ4
      have HQ4 := Lib.hid (hQ4.ext b0r)
      clear hy hq4 hB4 hQ4
      obtain ⟨w4, hw4, b4, c4, -, -⟩ := bx1 wr [.int .i64 y, .bool sx, .slice ax lx mx, .slice ay ly my] 173
      have HW := Lib.hid hw4
      have C4 := Lib.hid c4
      clear hw4 c4
      go_upto_region 4 with (fail)
      rw [← HW.out]
      clear HW u0 u1 u2 u3
      have C14 := Lib.hid (C1.out.ext (Ext.trans hx b4))
      have b04 := Ext.trans b0r b4
      have HSG : Hid (∀ w', Ext w4 w' → Calls Try.prog 94 #[.agg #[.bool sx, .slice ax lx mx, .slice ay ly my]] w' (Gives w' fun v' _ => v' = .int .i64 q4.num.sign)) := fun w' x => r5sign_any ((HQ4.out.rd.ext b4).ext x)
      by_cases hz : q4 = 0
      · have hs0 : q4.num.sign = 0 := by rw [hz]; rfl
        rw [hs0] at HSG
        have HN := Lib.hid (HNO.out fun h => h.1 hz)
        clear hz hs0
        have b5 := drew_ext w4
        have XE := b5
        refine wp_region_noPanic ?_
        refine wp_region_held_drew (S := fun w' => (w'.cell? ⟨wr.heap.size, 0, none⟩ = some (.int .i64 y) ∧ w'.cell? ⟨wr.heap.size, 1, none⟩ = some (.bool sx) ∧ w'.cell? ⟨wr.heap.size, 2, none⟩ = some (.slice ax lx mx) ∧ w'.cell? ⟨wr.heap.size, 3, none⟩ = some (.slice ay ly my)) ∧ (w'.cell? ⟨w.heap.size, 0, none⟩ = some (.slice (some ⟨bT, oT, none⟩) l.length k))) (by kernel_rfl) (⟨(C4.out.ext XE).c4, (C14.out.ext XE).c1⟩) (fun hHeld => ?_)
        refine wpAnyH_take (i := 0) (v := ?_) rfl (by kernel_rfl) (by kernel_rfl) (by kernel_rfl) (fun _ _ _ h => h) (Or.inl ⟨by rfl, fun w0 hSw => ?_⟩) hHeld ?_
        rotate_left
        · (try dsimp only at hSw)
          go_simp
          try with_reducible rfl
        simp only [Act.put, List.getElem_toArray, List.getElem_cons_succ, List.getElem_cons_zero, List.setIfInBounds_toArray, List.set_cons_zero, List.set_cons_succ]
        refine wpAnyH_take (i := 1) (v := ?_) rfl (by kernel_rfl) (by kernel_rfl) (by kernel_rfl) (fun _ _ _ h => h) (Or.inl ⟨by rfl, fun w0 hSw => ?_⟩) hHeld ?_
        rotate_left
        · (try dsimp only at hSw)
          go_simp
          try with_reducible rfl
        simp only [Act.put, List.getElem_toArray, List.getElem_cons_succ, List.getElem_cons_zero, List.setIfInBounds_toArray, List.set_cons_zero, List.set_cons_succ]
        refine wpAnyH_ready (rs := [2]) (by kernel_rfl) (by simp) ?_
        refine AllReadyH.cons (o := _) rfl (fun K hK => ?_) AllReadyH.nil
        go_simp
        go_at_call 94; refine (HSG.out _ XE).mono ?_; rintro e w6 ⟨_, rfl, b6, rfl⟩; (first | have XE := Ext.trans XE b6 | have XE := Ext.trans (Ext.trans XE (Ext.alloc _ _)) b6)
        go_wp2_with fail
        refine hK.out _ _ (⟨(C4.out.ext XE).c4, (C14.out.ext XE).c1⟩) (fun hHeld => ?_)
        clear hK K
        try simp only [Act.put, List.getElem_toArray, List.getElem_cons_succ, List.getElem_cons_zero, List.setIfInBounds_toArray, List.set_cons_zero, List.set_cons_succ]
        refine wpAnyH_take (i := 3) (v := ?_) rfl (by kernel_rfl) (by kernel_rfl) (by kernel_rfl) (fun _ _ _ h => h) (Or.inl ⟨by rfl, fun w0 hSw => ?_⟩) hHeld ?_
        rotate_left
        · (try dsimp only at hSw)
          go_simp
          try with_reducible rfl
        simp only [Act.put, List.getElem_toArray, List.getElem_cons_succ, List.getElem_cons_zero, List.setIfInBounds_toArray, List.set_cons_zero, List.set_cons_succ]
        refine wpAnyH_take (i := 4) (v := ?_) rfl (by kernel_rfl) (by kernel_rfl) (by kernel_rfl) (fun _ _ _ h => h) (Or.inl ⟨by rfl, fun w0 hSw => ?_⟩) hHeld ?_
        rotate_left
        · (try dsimp only at hSw)
          go_simp
          try with_reducible rfl
        simp only [Act.put, List.getElem_toArray, List.getElem_cons_succ, List.getElem_cons_zero, List.setIfInBounds_toArray, List.set_cons_zero, List.set_cons_succ]
        refine wpAnyH_take (i := 5) rfl (by kernel_rfl) (by kernel_rfl) (by kernel_rfl) (fun _ _ _ h => h) (Or.inr ⟨by rfl, rfl⟩) hHeld ?_
        simp only [Act.put, List.getElem_toArray, List.getElem_cons_succ, List.getElem_cons_zero, List.setIfInBounds_toArray, List.set_cons_zero, List.set_cons_succ]
        refine wpAnyH_take (i := 6) rfl (by kernel_rfl) (by kernel_rfl) (by kernel_rfl) (fun _ _ _ h => h) (Or.inr ⟨by rfl, rfl⟩) hHeld ?_
        simp only [Act.put, List.getElem_toArray, List.getElem_cons_succ, List.getElem_cons_zero, List.setIfInBounds_toArray, List.set_cons_zero, List.set_cons_succ]
        refine wpAnyH_take (i := 7) rfl (by kernel_rfl) (by kernel_rfl) (by kernel_rfl) (fun _ _ _ h => h) (Or.inr ⟨by rfl, rfl⟩) hHeld ?_
        simp only [Act.put, List.getElem_toArray, List.getElem_cons_succ, List.getElem_cons_zero, List.setIfInBounds_toArray, List.set_cons_zero, List.set_cons_succ]
        refine wpAnyH_take (i := 8) rfl (by kernel_rfl) (by kernel_rfl) (by kernel_rfl) (fun _ _ _ h => h) (Or.inr ⟨by rfl, rfl⟩) hHeld ?_
        simp only [Act.put, List.getElem_toArray, List.getElem_cons_succ, List.getElem_cons_zero, List.setIfInBounds_toArray, List.set_cons_zero, List.set_cons_succ]
        refine wpAnyH_take (i := 9) rfl (by kernel_rfl) (by kernel_rfl) (by kernel_rfl) (fun _ _ _ h => h) (Or.inr ⟨by rfl, rfl⟩) hHeld ?_
        simp only [Act.put, List.getElem_toArray, List.getElem_cons_succ, List.getElem_cons_zero, List.setIfInBounds_toArray, List.set_cons_zero, List.set_cons_succ]
        refine wpAnyH_take (i := 10) rfl (by kernel_rfl) (by kernel_rfl) (by kernel_rfl) (fun _ _ _ h => h) (Or.inr ⟨by rfl, rfl⟩) hHeld ?_
        simp only [Act.put, List.getElem_toArray, List.getElem_cons_succ, List.getElem_cons_zero, List.setIfInBounds_toArray, List.set_cons_zero, List.set_cons_succ]
        refine wpAnyH_take (i := 11) rfl (by kernel_rfl) (by kernel_rfl) (by kernel_rfl) (fun _ _ _ h => h) (Or.inr ⟨by rfl, rfl⟩) hHeld ?_
        simp only [Act.put, List.getElem_toArray, List.getElem_cons_succ, List.getElem_cons_zero, List.setIfInBounds_toArray, List.set_cons_zero, List.set_cons_succ]
        refine wpAnyH_take (i := 12) rfl (by kernel_rfl) (by kernel_rfl) (by kernel_rfl) (fun _ _ _ h => h) (Or.inr ⟨by rfl, rfl⟩) hHeld ?_
        simp only [Act.put, List.getElem_toArray, List.getElem_cons_succ, List.getElem_cons_zero, List.setIfInBounds_toArray, List.set_cons_zero, List.set_cons_succ]
        refine wpAnyH_take (i := 13) rfl (by kernel_rfl) (by kernel_rfl) (by kernel_rfl) (fun _ _ _ h => h) (Or.inr ⟨by rfl, rfl⟩) hHeld ?_
        simp only [Act.put, List.getElem_toArray, List.getElem_cons_succ, List.getElem_cons_zero, List.setIfInBounds_toArray, List.set_cons_zero, List.set_cons_succ]
        refine wpAnyH_take (i := 14) rfl (by kernel_rfl) (by kernel_rfl) (by kernel_rfl) (fun _ _ _ h => h) (Or.inr ⟨by rfl, rfl⟩) hHeld ?_
        simp only [Act.put, List.getElem_toArray, List.getElem_cons_succ, List.getElem_cons_zero, List.setIfInBounds_toArray, List.set_cons_zero, List.set_cons_succ]
        refine wpAnyH_take (i := 15) rfl (by kernel_rfl) (by kernel_rfl) (by kernel_rfl) (fun _ _ _ h => h) (Or.inr ⟨by rfl, rfl⟩) hHeld ?_
        simp only [Act.put, List.getElem_toArray, List.getElem_cons_succ, List.getElem_cons_zero, List.setIfInBounds_toArray, List.set_cons_zero, List.set_cons_succ]
        refine wpAnyH_take (i := 16) rfl (by kernel_rfl) (by kernel_rfl) (by kernel_rfl) (fun _ _ _ h => h) (Or.inr ⟨by rfl, rfl⟩) hHeld ?_
        simp only [Act.put, List.getElem_toArray, List.getElem_cons_succ, List.getElem_cons_zero, List.setIfInBounds_toArray, List.set_cons_zero, List.set_cons_succ]
        refine wpAnyH_take (i := 17) rfl (by kernel_rfl) (by kernel_rfl) (by kernel_rfl) (fun _ _ _ h => h) (Or.inr ⟨by rfl, rfl⟩) hHeld ?_
        simp only [Act.put, List.getElem_toArray, List.getElem_cons_succ, List.getElem_cons_zero, List.setIfInBounds_toArray, List.set_cons_zero, List.set_cons_succ]
        refine wpAnyH_take (i := 18) rfl (by kernel_rfl) (by kernel_rfl) (by kernel_rfl) (fun _ _ _ h => h) (Or.inr ⟨by rfl, rfl⟩) hHeld ?_
        simp only [Act.put, List.getElem_toArray, List.getElem_cons_succ, List.getElem_cons_zero, List.setIfInBounds_toArray, List.set_cons_zero, List.set_cons_succ]
        refine wpAnyH_take (i := 19) (v := ?_) rfl (by kernel_rfl) (by kernel_rfl) (by kernel_rfl) (fun _ _ _ h => h) (Or.inl ⟨by rfl, fun w0 hSw => ?_⟩) hHeld ?_
        rotate_left
        · (try dsimp only at hSw)
          go_simp
          try with_reducible rfl
        simp only [Act.put, List.getElem_toArray, List.getElem_cons_succ, List.getElem_cons_zero, List.setIfInBounds_toArray, List.set_cons_zero, List.set_cons_succ]
        refine wpAnyH_done (by kernel_rfl) ?_ _
        refine NoPanic.normal ?_
        go_wp2_with fail
        exact hR.out _ _ (Gives.mk (Ext.trans b04 XE) ⟨false, rfl, fun h => absurd h (by decide), fun h => absurd h HN.out⟩)
      · have hs0 : (q4.num.sign == 0) = false := beqF fun h => hz (num_sign_zero.1 h)
        have HZ := Lib.hid hz
        generalize q4.num.sign = sg at *
        clear hz
        by_cases hj0 : j = 0
        · have hd0 : decide ((0 : Int) < (j : Int)) = false := decide_eq_false (by omega)
          have hd0' : decide (0 < j) = false := decide_eq_false (by omega)
          have hd0n : ¬ 0 < j := by omega
          have b5 := drew_ext w4
          have XE := b5
          refine wp_region_noPanic ?_
          refine wp_region_held_drew (S := fun w' => (w'.cell? ⟨wr.heap.size, 0, none⟩ = some (.int .i64 y) ∧ w'.cell? ⟨wr.heap.size, 1, none⟩ = some (.bool sx) ∧ w'.cell? ⟨wr.heap.size, 2, none⟩ = some (.slice ax lx mx) ∧ w'.cell? ⟨wr.heap.size, 3, none⟩ = some (.slice ay ly my)) ∧ (w'.cell? ⟨w.heap.size, 0, none⟩ = some (.slice (some ⟨bT, oT, none⟩) l.length k))) (by kernel_rfl) (⟨(C4.out.ext XE).c4, (C14.out.ext XE).c1⟩) (fun hHeld => ?_)
          refine wpAnyH_take (i := 0) (v := ?_) rfl (by kernel_rfl) (by kernel_rfl) (by kernel_rfl) (fun _ _ _ h => h) (Or.inl ⟨by rfl, fun w0 hSw => ?_⟩) hHeld ?_
          rotate_left
          · (try dsimp only at hSw)
            go_simp
            try with_reducible rfl
          simp only [Act.put, List.getElem_toArray, List.getElem_cons_succ, List.getElem_cons_zero, List.setIfInBounds_toArray, List.set_cons_zero, List.set_cons_succ]
          refine wpAnyH_take (i := 1) (v := ?_) rfl (by kernel_rfl) (by kernel_rfl) (by kernel_rfl) (fun _ _ _ h => h) (Or.inl ⟨by rfl, fun w0 hSw => ?_⟩) hHeld ?_
          rotate_left
          · (try dsimp only at hSw)
            go_simp
            try with_reducible rfl
          simp only [Act.put, List.getElem_toArray, List.getElem_cons_succ, List.getElem_cons_zero, List.setIfInBounds_toArray, List.set_cons_zero, List.set_cons_succ]
          refine wpAnyH_ready (rs := [2]) (by kernel_rfl) (by simp) ?_
          refine AllReadyH.cons (o := _) rfl (fun K hK => ?_) AllReadyH.nil
          go_simp
          go_at_call 94; refine (HSG.out _ XE).mono ?_; rintro e w6 ⟨_, rfl, b6, rfl⟩; (first | have XE := Ext.trans XE b6 | have XE := Ext.trans (Ext.trans XE (Ext.alloc _ _)) b6)
          go_wp2_with fail
          refine hK.out _ _ (⟨(C4.out.ext XE).c4, (C14.out.ext XE).c1⟩) (fun hHeld => ?_)
          clear hK K
          try simp only [Act.put, List.getElem_toArray, List.getElem_cons_succ, List.getElem_cons_zero, List.setIfInBounds_toArray, List.set_cons_zero, List.set_cons_succ]
          refine wpAnyH_take (i := 3) (v := ?_) rfl (by kernel_rfl) (by kernel_rfl) (by kernel_rfl) (fun _ _ _ h => h) (Or.inl ⟨by rfl, fun w0 hSw => ?_⟩) hHeld ?_
          rotate_left
          · (try dsimp only at hSw)
            go_simp
            try with_reducible rfl
          simp only [Act.put, List.getElem_toArray, List.getElem_cons_succ, List.getElem_cons_zero, List.setIfInBounds_toArray, List.set_cons_zero, List.set_cons_succ]
          refine wpAnyH_take (i := 4) (v := ?_) rfl (by kernel_rfl) (by kernel_rfl) (by kernel_rfl) (fun _ _ _ h => h) (Or.inl ⟨by rfl, fun w0 hSw => ?_⟩) hHeld ?_
          rotate_left
          · (try dsimp only at hSw)
            go_simp
            try with_reducible rfl
          simp only [Act.put, List.getElem_toArray, List.getElem_cons_succ, List.getElem_cons_zero, List.setIfInBounds_toArray, List.set_cons_zero, List.set_cons_succ]
          refine wpAnyH_take (i := 5) (v := ?_) rfl (by kernel_rfl) (by kernel_rfl) (by kernel_rfl) (fun _ _ _ h => h) (Or.inl ⟨by rfl, fun w0 hSw => ?_⟩) hHeld ?_
          rotate_left
          · (try dsimp only at hSw)
            go_simp
            try with_reducible rfl
          simp only [Act.put, List.getElem_toArray, List.getElem_cons_succ, List.getElem_cons_zero, List.setIfInBounds_toArray, List.set_cons_zero, List.set_cons_succ]
          refine wpAnyH_take (i := 6) (v := ?_) rfl (by kernel_rfl) (by kernel_rfl) (by kernel_rfl) (fun _ _ _ h => h) (Or.inl ⟨by rfl, fun w0 hSw => ?_⟩) hHeld ?_
          rotate_left
          · (try dsimp only at hSw)
            go_simp
            try with_reducible rfl
          simp only [Act.put, List.getElem_toArray, List.getElem_cons_succ, List.getElem_cons_zero, List.setIfInBounds_toArray, List.set_cons_zero, List.set_cons_succ]
          refine wpAnyH_take (i := 7) (v := ?_) rfl (by kernel_rfl) (by kernel_rfl) (by kernel_rfl) (fun _ _ _ h => h) (Or.inl ⟨by rfl, fun w0 hSw => ?_⟩) hHeld ?_
          rotate_left
          · (try dsimp only at hSw)
            go_simp
            try with_reducible rfl
          simp only [Act.put, List.getElem_toArray, List.getElem_cons_succ, List.getElem_cons_zero, List.setIfInBounds_toArray, List.set_cons_zero, List.set_cons_succ]
          refine wpAnyH_take (i := 8) rfl (by kernel_rfl) (by kernel_rfl) (by kernel_rfl) (fun _ _ _ h => h) (Or.inr ⟨by rfl, rfl⟩) hHeld ?_
          simp only [Act.put, List.getElem_toArray, List.getElem_cons_succ, List.getElem_cons_zero, List.setIfInBounds_toArray, List.set_cons_zero, List.set_cons_succ]
          refine wpAnyH_take (i := 9) rfl (by kernel_rfl) (by kernel_rfl) (by kernel_rfl) (fun _ _ _ h => h) (Or.inr ⟨by rfl, rfl⟩) hHeld ?_
          simp only [Act.put, List.getElem_toArray, List.getElem_cons_succ, List.getElem_cons_zero, List.setIfInBounds_toArray, List.set_cons_zero, List.set_cons_succ]
          refine wpAnyH_take (i := 10) rfl (by kernel_rfl) (by kernel_rfl) (by kernel_rfl) (fun _ _ _ h => h) (Or.inr ⟨by rfl, rfl⟩) hHeld ?_
          simp only [Act.put, List.getElem_toArray, List.getElem_cons_succ, List.getElem_cons_zero, List.setIfInBounds_toArray, List.set_cons_zero, List.set_cons_succ]
          refine wpAnyH_take (i := 11) rfl (by kernel_rfl) (by kernel_rfl) (by kernel_rfl) (fun _ _ _ h => h) (Or.inr ⟨by rfl, rfl⟩) hHeld ?_
          simp only [Act.put, List.getElem_toArray, List.getElem_cons_succ, List.getElem_cons_zero, List.setIfInBounds_toArray, List.set_cons_zero, List.set_cons_succ]
          refine wpAnyH_take (i := 12) rfl (by kernel_rfl) (by kernel_rfl) (by kernel_rfl) (fun _ _ _ h => h) (Or.inr ⟨by rfl, rfl⟩) hHeld ?_
          simp only [Act.put, List.getElem_toArray, List.getElem_cons_succ, List.getElem_cons_zero, List.setIfInBounds_toArray, List.set_cons_zero, List.set_cons_succ]
          refine wpAnyH_take (i := 13) rfl (by kernel_rfl) (by kernel_rfl) (by kernel_rfl) (fun _ _ _ h => h) (Or.inr ⟨by rfl, rfl⟩) hHeld ?_
          simp only [Act.put, List.getElem_toArray, List.getElem_cons_succ, List.getElem_cons_zero, List.setIfInBounds_toArray, List.set_cons_zero, List.set_cons_succ]
          refine wpAnyH_take (i := 14) rfl (by kernel_rfl) (by kernel_rfl) (by kernel_rfl) (fun _ _ _ h => h) (Or.inr ⟨by rfl, rfl⟩) hHeld ?_
          simp only [Act.put, List.getElem_toArray, List.getElem_cons_succ, List.getElem_cons_zero, List.setIfInBounds_toArray, List.set_cons_zero, List.set_cons_succ]
          refine wpAnyH_take (i := 15) rfl (by kernel_rfl) (by kernel_rfl) (by kernel_rfl) (fun _ _ _ h => h) (Or.inr ⟨by rfl, rfl⟩) hHeld ?_
          simp only [Act.put, List.getElem_toArray, List.getElem_cons_succ, List.getElem_cons_zero, List.setIfInBounds_toArray, List.set_cons_zero, List.set_cons_succ]
          refine wpAnyH_take (i := 16) rfl (by kernel_rfl) (by kernel_rfl) (by kernel_rfl) (fun _ _ _ h => h) (Or.inr ⟨by rfl, rfl⟩) hHeld ?_
          simp only [Act.put, List.getElem_toArray, List.getElem_cons_succ, List.getElem_cons_zero, List.setIfInBounds_toArray, List.set_cons_zero, List.set_cons_succ]
          refine wpAnyH_take (i := 17) rfl (by kernel_rfl) (by kernel_rfl) (by kernel_rfl) (fun _ _ _ h => h) (Or.inr ⟨by rfl, rfl⟩) hHeld ?_
          simp only [Act.put, List.getElem_toArray, List.getElem_cons_succ, List.getElem_cons_zero, List.setIfInBounds_toArray, List.set_cons_zero, List.set_cons_succ]
          refine wpAnyH_take (i := 18) (v := ?_) rfl (by kernel_rfl) (by kernel_rfl) (by kernel_rfl) (fun _ _ _ h => h) (Or.inl ⟨by rfl, fun w0 hSw => ?_⟩) hHeld ?_
          rotate_left
          · (try dsimp only at hSw)
            go_simp
            try with_reducible rfl
          simp only [Act.put, List.getElem_toArray, List.getElem_cons_succ, List.getElem_cons_zero, List.setIfInBounds_toArray, List.set_cons_zero, List.set_cons_succ]
          refine wpAnyH_take (i := 19) (v := ?_) rfl (by kernel_rfl) (by kernel_rfl) (by kernel_rfl) (fun _ _ _ h => h) (Or.inl ⟨by rfl, fun w0 hSw => ?_⟩) hHeld ?_
          rotate_left
          · (try dsimp only at hSw)
            go_simp
            try with_reducible rfl
          simp only [Act.put, List.getElem_toArray, List.getElem_cons_succ, List.getElem_cons_zero, List.setIfInBounds_toArray, List.set_cons_zero, List.set_cons_succ]
          refine wpAnyH_done (by kernel_rfl) ?_ _
          refine NoPanic.normal ?_
          go_wp2_with fail
          go_roundw
          case rel => exact ⟨j + 1, by go_num, by omega, Ext.trans hx (Ext.trans b4 XE), HIF.out.2 ⟨HZ.out, fun h => absurd h hd0n⟩⟩
          case measure => simp [intOf] <;> omega
        · have hd0 : decide ((0 : Int) < (j : Int)) = true := decide_eq_true (by omega)
          have hd0' : decide (0 < j) = true := decide_eq_true (by omega)
          have hd0p : 0 < j := by omega
          obtain ⟨i, hi⟩ : ∃ i, j - 1 = i := ⟨_, rfl⟩
          have hI0 : (j : Int) - 1 = (i : Int) := by omega
          have hI1 : IntKind.i64.wrap (i : Int) = (i : Int) := by rw [IntKind.wrap_i64]; omega
          have hI2 : (0 : Int) ≤ (i : Int) ∧ (i : Int) < (l.length : Int) := ⟨by omega, by omega⟩
          obtain ⟨sp, ap, lp, mp, aq, lq, mq, hBp, -⟩ := HRW.out.tp i (by omega)
          rw [hi] at HIF HNO
          obtain ⟨z, hzz⟩ : ∃ z, (gt l i).1 = z := ⟨_, rfl⟩
          rw [hzz] at HIF HNO hBp
          have DP := Lib.hid (hBp.ext b04)
          clear hBp hzz
          have b5 := drew_ext w4
          have XE := b5
          refine wp_region_noPanic ?_
          refine wp_region_held_drew (S := fun w' => (w'.cell? ⟨wr.heap.size, 0, none⟩ = some (.int .i64 y) ∧ w'.cell? ⟨wr.heap.size, 1, none⟩ = some (.bool sx) ∧ w'.cell? ⟨wr.heap.size, 2, none⟩ = some (.slice ax lx mx) ∧ w'.cell? ⟨wr.heap.size, 3, none⟩ = some (.slice ay ly my)) ∧ (w'.cell? ⟨w.heap.size, 0, none⟩ = some (.slice (some ⟨bT, oT, none⟩) l.length k)) ∧ (w'.cell? ⟨bT, oT + i * 4, none⟩ = some (.int .i64 z) ∧ w'.cell? ⟨bT, oT + i * 4 + 1, none⟩ = some (.bool sp) ∧ w'.cell? ⟨bT, oT + i * 4 + 2, none⟩ = some (.slice ap lp mp) ∧ w'.cell? ⟨bT, oT + i * 4 + 3, none⟩ = some (.slice aq lq mq))) (by kernel_rfl) (⟨(C4.out.ext XE).c4, (C14.out.ext XE).c1, DP.out.ext XE⟩) (fun hHeld => ?_)
          refine wpAnyH_take (i := 0) (v := ?_) rfl (by kernel_rfl) (by kernel_rfl) (by kernel_rfl) (fun _ _ _ h => h) (Or.inl ⟨by rfl, fun w0 hSw => ?_⟩) hHeld ?_
          rotate_left
          · (try dsimp only at hSw)
            go_simp
            try with_reducible rfl
          simp only [Act.put, List.getElem_toArray, List.getElem_cons_succ, List.getElem_cons_zero, List.setIfInBounds_toArray, List.set_cons_zero, List.set_cons_succ]
          refine wpAnyH_take (i := 1) (v := ?_) rfl (by kernel_rfl) (by kernel_rfl) (by kernel_rfl) (fun _ _ _ h => h) (Or.inl ⟨by rfl, fun w0 hSw => ?_⟩) hHeld ?_
          rotate_left
          · (try dsimp only at hSw)
            go_simp
            try with_reducible rfl
          simp only [Act.put, List.getElem_toArray, List.getElem_cons_succ, List.getElem_cons_zero, List.setIfInBounds_toArray, List.set_cons_zero, List.set_cons_succ]
          refine wpAnyH_ready (rs := [2]) (by kernel_rfl) (by simp) ?_
          refine AllReadyH.cons (o := _) rfl (fun K hK => ?_) AllReadyH.nil
          go_simp
          go_at_call 94; refine (HSG.out _ XE).mono ?_; rintro e w6 ⟨_, rfl, b6, rfl⟩; (first | have XE := Ext.trans XE b6 | have XE := Ext.trans (Ext.trans XE (Ext.alloc _ _)) b6)
          go_wp2_with fail
          refine hK.out _ _ (⟨(C4.out.ext XE).c4, (C14.out.ext XE).c1, DP.out.ext XE⟩) (fun hHeld => ?_)
          clear hK K
          try simp only [Act.put, List.getElem_toArray, List.getElem_cons_succ, List.getElem_cons_zero, List.setIfInBounds_toArray, List.set_cons_zero, List.set_cons_succ]
          refine wpAnyH_take (i := 3) (v := ?_) rfl (by kernel_rfl) (by kernel_rfl) (by kernel_rfl) (fun _ _ _ h => h) (Or.inl ⟨by rfl, fun w0 hSw => ?_⟩) hHeld ?_
          rotate_left
          · (try dsimp only at hSw)
            go_simp
            try with_reducible rfl
          simp only [Act.put, List.getElem_toArray, List.getElem_cons_succ, List.getElem_cons_zero, List.setIfInBounds_toArray, List.set_cons_zero, List.set_cons_succ]
          refine wpAnyH_take (i := 4) (v := ?_) rfl (by kernel_rfl) (by kernel_rfl) (by kernel_rfl) (fun _ _ _ h => h) (Or.inl ⟨by rfl, fun w0 hSw => ?_⟩) hHeld ?_
          rotate_left
          · (try dsimp only at hSw)
            go_simp
            try with_reducible rfl
          simp only [Act.put, List.getElem_toArray, List.getElem_cons_succ, List.getElem_cons_zero, List.setIfInBounds_toArray, List.set_cons_zero, List.set_cons_succ]
          refine wpAnyH_take (i := 5) (v := ?_) rfl (by kernel_rfl) (by kernel_rfl) (by kernel_rfl) (fun _ _ _ h => h) (Or.inl ⟨by rfl, fun w0 hSw => ?_⟩) hHeld ?_
          rotate_left
          · (try dsimp only at hSw)
            go_simp
            try with_reducible rfl
          simp only [Act.put, List.getElem_toArray, List.getElem_cons_succ, List.getElem_cons_zero, List.setIfInBounds_toArray, List.set_cons_zero, List.set_cons_succ]
          refine wpAnyH_take (i := 6) (v := ?_) rfl (by kernel_rfl) (by kernel_rfl) (by kernel_rfl) (fun _ _ _ h => h) (Or.inl ⟨by rfl, fun w0 hSw => ?_⟩) hHeld ?_
          rotate_left
          · (try dsimp only at hSw)
            go_simp
            try with_reducible rfl
          simp only [Act.put, List.getElem_toArray, List.getElem_cons_succ, List.getElem_cons_zero, List.setIfInBounds_toArray, List.set_cons_zero, List.set_cons_succ]
          refine wpAnyH_take (i := 7) (v := ?_) rfl (by kernel_rfl) (by kernel_rfl) (by kernel_rfl) (fun _ _ _ h => h) (Or.inl ⟨by rfl, fun w0 hSw => ?_⟩) hHeld ?_
          rotate_left
          · (try dsimp only at hSw)
            go_simp
            try with_reducible rfl
          simp only [Act.put, List.getElem_toArray, List.getElem_cons_succ, List.getElem_cons_zero, List.setIfInBounds_toArray, List.set_cons_zero, List.set_cons_succ]
          refine wpAnyH_take (i := 8) (v := ?_) rfl (by kernel_rfl) (by kernel_rfl) (by kernel_rfl) (fun _ _ _ h => h) (Or.inl ⟨by rfl, fun w0 hSw => ?_⟩) hHeld ?_
          rotate_left
          · (try dsimp only at hSw)
            go_simp
            try with_reducible rfl
          simp only [Act.put, List.getElem_toArray, List.getElem_cons_succ, List.getElem_cons_zero, List.setIfInBounds_toArray, List.set_cons_zero, List.set_cons_succ]
          refine wpAnyH_take (i := 9) (v := ?_) rfl (by kernel_rfl) (by kernel_rfl) (by kernel_rfl) (fun _ _ _ h => h) (Or.inl ⟨by rfl, fun w0 hSw => ?_⟩) hHeld ?_
          rotate_left
          · (try dsimp only at hSw)
            go_simp
            try with_reducible rfl
          simp only [Act.put, List.getElem_toArray, List.getElem_cons_succ, List.getElem_cons_zero, List.setIfInBounds_toArray, List.set_cons_zero, List.set_cons_succ]
          refine wpAnyH_take (i := 10) (v := ?_) rfl (by kernel_rfl) (by kernel_rfl) (by kernel_rfl) (fun _ _ _ h => h) (Or.inl ⟨by rfl, fun w0 hSw => ?_⟩) hHeld ?_
          rotate_left
          · (try dsimp only at hSw)
            go_simp
            try with_reducible rfl
          simp only [Act.put, List.getElem_toArray, List.getElem_cons_succ, List.getElem_cons_zero, List.setIfInBounds_toArray, List.set_cons_zero, List.set_cons_succ]
          refine wpAnyH_take (i := 11) (v := ?_) rfl (by kernel_rfl) (by kernel_rfl) (by kernel_rfl) (fun _ _ _ h => h) (Or.inl ⟨by rfl, fun w0 hSw => ?_⟩) hHeld ?_
          rotate_left
          · (try dsimp only at hSw)
            go_simp
            try with_reducible rfl
          simp only [Act.put, List.getElem_toArray, List.getElem_cons_succ, List.getElem_cons_zero, List.setIfInBounds_toArray, List.set_cons_zero, List.set_cons_succ]
          refine wpAnyH_take (i := 12) (v := ?_) rfl (by kernel_rfl) (by kernel_rfl) (by kernel_rfl) (fun _ _ _ h => h) (Or.inl ⟨by rfl, fun w0 hSw => ?_⟩) hHeld ?_
          rotate_left
          · (try dsimp only at hSw)
            go_simp
            try with_reducible rfl
          simp only [Act.put, List.getElem_toArray, List.getElem_cons_succ, List.getElem_cons_zero, List.setIfInBounds_toArray, List.set_cons_zero, List.set_cons_succ]
          refine wpAnyH_take (i := 13) (v := ?_) rfl (by kernel_rfl) (by kernel_rfl) (by kernel_rfl) (fun _ _ _ h => h) (Or.inl ⟨by rfl, fun w0 hSw => ?_⟩) hHeld ?_
          rotate_left
          · (try dsimp only at hSw)
            go_simp
            try with_reducible rfl
          simp only [Act.put, List.getElem_toArray, List.getElem_cons_succ, List.getElem_cons_zero, List.setIfInBounds_toArray, List.set_cons_zero, List.set_cons_succ]
          refine wpAnyH_take (i := 14) (v := ?_) rfl (by kernel_rfl) (by kernel_rfl) (by kernel_rfl) (fun _ _ _ h => h) (Or.inl ⟨by rfl, fun w0 hSw => ?_⟩) hHeld ?_
          rotate_left
          · (try dsimp only at hSw)
            go_simp
            try with_reducible rfl
          simp only [Act.put, List.getElem_toArray, List.getElem_cons_succ, List.getElem_cons_zero, List.setIfInBounds_toArray, List.set_cons_zero, List.set_cons_succ]
          refine wpAnyH_take (i := 15) (v := ?_) rfl (by kernel_rfl) (by kernel_rfl) (by kernel_rfl) (fun _ _ _ h => h) (Or.inl ⟨by rfl, fun w0 hSw => ?_⟩) hHeld ?_
          rotate_left
          · (try dsimp only at hSw)
            go_simp
            try with_reducible rfl
          simp only [Act.put, List.getElem_toArray, List.getElem_cons_succ, List.getElem_cons_zero, List.setIfInBounds_toArray, List.set_cons_zero, List.set_cons_succ]
          refine wpAnyH_take (i := 16) (v := ?_) rfl (by kernel_rfl) (by kernel_rfl) (by kernel_rfl) (fun _ _ _ h => h) (Or.inl ⟨by rfl, fun w0 hSw => ?_⟩) hHeld ?_
          rotate_left
          · (try dsimp only at hSw)
            go_simp
            try with_reducible rfl
          simp only [Act.put, List.getElem_toArray, List.getElem_cons_succ, List.getElem_cons_zero, List.setIfInBounds_toArray, List.set_cons_zero, List.set_cons_succ]
          refine wpAnyH_take (i := 17) (v := ?_) rfl (by kernel_rfl) (by kernel_rfl) (by kernel_rfl) (fun _ _ _ h => h) (Or.inl ⟨by rfl, fun w0 hSw => ?_⟩) hHeld ?_
          rotate_left
          · (try dsimp only at hSw)
            go_simp
            try with_reducible rfl
          simp only [Act.put, List.getElem_toArray, List.getElem_cons_succ, List.getElem_cons_zero, List.setIfInBounds_toArray, List.set_cons_zero, List.set_cons_succ]
          refine wpAnyH_take (i := 18) (v := ?_) rfl (by kernel_rfl) (by kernel_rfl) (by kernel_rfl) (fun _ _ _ h => h) (Or.inl ⟨by rfl, fun w0 hSw => ?_⟩) hHeld ?_
          rotate_left
          · (try dsimp only at hSw)
            go_simp
            try with_reducible rfl
          simp only [Act.put, List.getElem_toArray, List.getElem_cons_succ, List.getElem_cons_zero, List.setIfInBounds_toArray, List.set_cons_zero, List.set_cons_succ]
          refine wpAnyH_take (i := 19) (v := ?_) rfl (by kernel_rfl) (by kernel_rfl) (by kernel_rfl) (fun _ _ _ h => h) (Or.inl ⟨by rfl, fun w0 hSw => ?_⟩) hHeld ?_
          rotate_left
          · (try dsimp only at hSw)
            go_simp
            try with_reducible rfl
          simp only [Act.put, List.getElem_toArray, List.getElem_cons_succ, List.getElem_cons_zero, List.setIfInBounds_toArray, List.set_cons_zero, List.set_cons_succ]
          refine wpAnyH_done (by kernel_rfl) ?_ _
          refine NoPanic.normal ?_
          by_cases hzy : z < y
          · have hdz : decide (y ≤ z) = false := decide_eq_false (by omega)
            try rw [hdz]
            go_wp2_with fail
            go_roundw
            case rel => exact ⟨j + 1, by go_num, by omega, Ext.trans hx (Ext.trans b4 XE), HIF.out.2 ⟨HZ.out, fun _ => hzy⟩⟩
            case measure => simp [intOf] <;> omega
          · have hdz : decide (y ≤ z) = true := decide_eq_true (by omega)
            try rw [hdz]
            have HN := Lib.hid (HNO.out fun h => hzy (h.2 hd0p))
            go_wp2_with fail
            exact hR.out _ _ (Gives.mk (Ext.trans b04 XE) ⟨false, rfl, fun h => absurd h (by decide), fun h => absurd h HN.out⟩)
    · obtain rfl : j = l.length := by omega
      have hd : decide ((l.length : Int) < (l.length : Int)) = false := decide_eq_false (by omega)
      rw [List.take_length] at hF
      go_wp2_with fail
      exact hR.out _ _ (Gives.mk (Ext.trans b1 hx) ⟨true, rfl, fun _ => hF.out, fun _ => rfl⟩)
end Go.Proofs.Ytnbbhpihlcglgaa
