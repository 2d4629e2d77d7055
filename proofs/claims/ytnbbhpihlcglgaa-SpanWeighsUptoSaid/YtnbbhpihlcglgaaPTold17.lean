/- attestlaw17.Told: the program's spans as the document's -/
import Derived.Test.YtnbbhpihlcglgaaRowAll
import Derived.Test.YtnbbhpihlcglgaaPTold
namespace Go.Proofs.Ytnbbhpihlcglgaa
open Go.RowKit Go.Att

theorem et17P : ElemT Try.prog 42 48 (.agg #[.bool false, .slice none 0 0, .slice none 0 0, .bool false, .slice none 0 0, .slice none 0 0]) 6 112 := ElemT.mk' Try.underlying42 (by kernel_rfl) rfl (by decide)

theorem if_wanted {c : Prop} [Decidable c] {A B : Prop} (h : c) (k : A) : if c then A else B := by rw [if_pos h]; exact k
theorem one6 {b0 b3 : Bool} {a1 a2 a4 a5 : Option Addr} {n1 n2 n4 n5 c1 c2 c4 c5 : Nat} : ∀ u ∈ (#[Value.bool b0, .slice a1 n1 c1, .slice a2 n2 c2, .bool b3, .slice a4 n4 c4, .slice a5 n5 c5] : Array Value).toList, u.oneCell' = true := by
  intro u hu
  simp at hu
  rcases hu with rfl | rfl | rfl | rfl | rfl | rfl <;> rfl
theorem Bx.grown {w w' : World} {b : Nat} {cs : List Value} (h : Bx w b cs) {o : Option Nat} (hne : o ≠ some b) (hg : w.grownBy w' o) : Bx w' b cs := fun i v hv => by
  have h1 := h i v hv
  rw [← h1]
  exact World.cell?_of_block (hg.block b (World.block_lt_of_cell? _ _ h1) (fun e => hne e.symm))
set_option maxHeartbeats 2000000 in
set_option linter.unusedSimpArgs false in
theorem told17_any {w : World} {v : Value} {l : List (Rat × Rat)} (hv : RdRow 6 RdDp w v l) (hs : ∀ p ∈ l, Sz 1000000 p.1 ∧ Sz 1000000 p.2) (hl : l.length ≤ 100000) :
    Calls Try.prog 22 #[v] w (Gives w fun v' w' => OwnRow 6 (OwnEp 4) 48 w.heap.size w' v' l) := by
  refine via fun R hR => ?_
  have HS := Lib.hid hs
  obtain ⟨a, c, rfl, hlc, hcm⟩ := hv.shape
  have HV := Lib.hid hv
  unfold maxLen at hcm
  clear hv hs
  go_enter Try.func22, Try.ntmps22
  go_wp2_with fail
  go_loopw [3, 9] (fun o i wr => ∃ k : Nat, i = .int .i64 k ∧ k ≤ l.length ∧ Ext w wr ∧ Hid (OwnRow 6 (OwnEp 4) 48 w.heap.size wr o (l.take k))) (fun _ i _ => l.length - (intOf i).toNat)
  case atStart => exact ⟨0, rfl, Nat.zero_le _, Ext.alloc _ _, by rw [List.take_zero]; exact OwnRow.nilLit _ (Nat.le_refl _)⟩
  case round =>
    obtain ⟨k, rfl, hk, hx, hO⟩ := hrel
    have hsz := hx.size
    by_cases hlt : k < l.length
    · obtain ⟨b, off, cs, rfl, hcl, hT, hc⟩ := HV.out.at (by decide) k hlt
      obtain ⟨x0, x1, x2, x3, x4, x5, rfl, hq1, hq2⟩ := cells_D hT
      have e0 := Ext.cell hx (hc 0 (by decide))
      have e1 := Ext.cell hx (hc 1 (by decide))
      have e2 := Ext.cell hx (hc 2 (by decide))
      have e3 := Ext.cell hx (hc 3 (by decide))
      have e4 := Ext.cell hx (hc 4 (by decide))
      have e5 := Ext.cell hx (hc 5 (by decide))
      obtain ⟨s1, s2⟩ := HS.out l[k] (List.getElem_mem hlt)
      have hsnoc : Hid (l.take (k + 1) = l.take k ++ [(l[k].1, l[k].2)]) := by show _ = _; rw [← List.take_append_getElem hlt]
      generalize l[k].1 = p at *
      generalize l[k].2 = q at *
      have SP := Lib.hid s1
      have SQ := Lib.hid s2
      have HP := Lib.hid hq1
      have HQ := Lib.hid hq2
      obtain ⟨aa, ac, ab, ad, rfl, rfl, rfl⟩ := shape_Q hq1
      obtain ⟨ba, bc, bb, bd, rfl, rfl, rfl⟩ := shape_Q hq2
      obtain ⟨w1, hw1, b1, c1, -, -⟩ := bx1 wr [.bool (decide (p.num < 0)), .slice aa (limbs p.num.natAbs).length ac, .slice ab (dens p.den).length ad, .bool (decide (q.num < 0)), .slice ba (limbs q.num.natAbs).length bc, .slice bb (dens q.den).length bd] 34
      have C1 := Lib.hid c1
      have HW := Lib.hid hw1
      simp only [List.getElem?_cons_zero, List.getElem?_cons_succ, Nat.add_zero] at e0 e1 e2 e3 e4 e5
      clear hT hc hq1 hq2 s1 s2 c1 hw1
      go_upto_region 5 with (fail)
      rw [← HW.out]
      clear HW e0 e1 e2 e3 e4 e5
      obtain ⟨E, hE, hPw⟩ := hO.out
      have HE := Lib.hid hE
      have HPW := Lib.hid hPw
      have hkl : (l.take k).length = k := by rw [List.length_take]; omega
      have HKL := Lib.hid hkl
      rw [hkl] at hE
      clear hPw hkl
      have RP := Lib.hid (HP.out.ext (Ext.trans hx b1))
      have RQ := Lib.hid (HQ.out.ext (Ext.trans hx b1))
      generalize Value.bool (decide (p.num < 0)) = y0 at *
      generalize Value.slice aa (limbs p.num.natAbs).length ac = y1 at *
      generalize Value.slice ab (dens p.den).length ad = y2 at *
      generalize Value.bool (decide (q.num < 0)) = y3 at *
      generalize Value.slice ba (limbs q.num.natAbs).length bc = y4 at *
      generalize Value.slice bb (dens q.den).length bd = y5 at *
      have b2 := drew_ext w1
      have XE := b2
      refine wp_region_noPanic ?_
      refine wp_region_held_drew (S := fun w' => w'.cell? ⟨wr.heap.size, 0, none⟩ = some (y0) ∧ w'.cell? ⟨wr.heap.size, 1, none⟩ = some (y1) ∧ w'.cell? ⟨wr.heap.size, 2, none⟩ = some (y2) ∧ w'.cell? ⟨wr.heap.size, 3, none⟩ = some (y3) ∧ w'.cell? ⟨wr.heap.size, 4, none⟩ = some (y4) ∧ w'.cell? ⟨wr.heap.size, 5, none⟩ = some (y5)) (by kernel_rfl) ((C1.out.ext XE).c6) (fun hHeld => ?_)
      refine wpAnyH_take (i := 0) (v := ?_) rfl (by kernel_rfl) (by kernel_rfl) (by kernel_rfl) (fun _ _ _ h => h) (Or.inl ⟨by rfl, fun w0 hSw => ?_⟩) hHeld ?_
      rotate_left
      · (try dsimp only at hSw)
        go_simp
        try with_reducible rfl
      simp only [Act.put, List.getElem_toArray, List.getElem_cons_succ, List.getElem_cons_zero, List.setIfInBounds_toArray, List.set_cons_zero, List.set_cons_succ]
      refine wpAnyH_take (i := 1) (v := ?_) rfl (by kernel_rfl) (by kernel_rfl) (by kernel_rfl) (fun _ _ _ h => h) (Or.inl ⟨by rfl, fun w0 hSw => ?_⟩) hHeld ?_
      rotate_left
      · (try dsimp only at hSw)
        go_simp
        try with_reducible rfl
      simp only [Act.put, List.getElem_toArray, List.getElem_cons_succ, List.getElem_cons_zero, List.setIfInBounds_toArray, List.set_cons_zero, List.set_cons_succ]
      refine wpAnyH_take (i := 2) (v := ?_) rfl (by kernel_rfl) (by kernel_rfl) (by kernel_rfl) (fun _ _ _ h => h) (Or.inl ⟨by rfl, fun w0 hSw => ?_⟩) hHeld ?_
      rotate_left
      · (try dsimp only at hSw)
        go_simp
        try with_reducible rfl
      simp only [Act.put, List.getElem_toArray, List.getElem_cons_succ, List.getElem_cons_zero, List.setIfInBounds_toArray, List.set_cons_zero, List.set_cons_succ]
      refine wpAnyH_take (i := 4) (v := ?_) rfl (by kernel_rfl) (by kernel_rfl) (by kernel_rfl) (fun _ _ _ h => h) (Or.inl ⟨by rfl, fun w0 hSw => ?_⟩) hHeld ?_
      rotate_left
      · (try dsimp only at hSw)
        go_simp
        try with_reducible rfl
      simp only [Act.put, List.getElem_toArray, List.getElem_cons_succ, List.getElem_cons_zero, List.setIfInBounds_toArray, List.set_cons_zero, List.set_cons_succ]
      refine wpAnyH_take (i := 5) (v := ?_) rfl (by kernel_rfl) (by kernel_rfl) (by kernel_rfl) (fun _ _ _ h => h) (Or.inl ⟨by rfl, fun w0 hSw => ?_⟩) hHeld ?_
      rotate_left
      · (try dsimp only at hSw)
        go_simp
        try with_reducible rfl
      simp only [Act.put, List.getElem_toArray, List.getElem_cons_succ, List.getElem_cons_zero, List.setIfInBounds_toArray, List.set_cons_zero, List.set_cons_succ]
      refine wpAnyH_ready (rs := [3]) (by kernel_rfl) (by simp) ?_
      refine AllReadyH.cons (o := _) rfl (fun K hK => ?_) AllReadyH.nil
      go_simp
      go_at_call 25; refine (told_any (RP.out.ext b2) SP.out).mono ?_; rintro e w3 ⟨_, rfl, b3, n3, d3, rfl, on3, od3⟩; have ON3 := Lib.hid on3; have OD3 := Lib.hid od3; clear on3 od3; obtain ⟨an3, cn3, rfl, -, -, -, -⟩ := ON3.out.rd.shape; obtain ⟨ad3, cd3, rfl, -, -, -, -⟩ := OD3.out.rd.shape; (first | have XE := Ext.trans XE b3 | have XE := Ext.trans (Ext.trans XE (Ext.alloc _ _)) b3)
      go_wp2_with fail
      refine hK.out _ _ ((C1.out.ext XE).c6) (fun hHeld => ?_)
      clear hK K
      try simp only [Act.put, List.getElem_toArray, List.getElem_cons_succ, List.getElem_cons_zero, List.setIfInBounds_toArray, List.set_cons_zero, List.set_cons_succ]
      refine wpAnyH_ready (rs := [6]) (by kernel_rfl) (by simp) ?_
      refine AllReadyH.cons (o := _) rfl (fun K hK => ?_) AllReadyH.nil
      go_simp
      go_at_call 25; refine (told_any (RQ.out.ext (Ext.trans b2 b3)) SQ.out).mono ?_; rintro e w4 ⟨_, rfl, b4, n4, d4, rfl, on4, od4⟩; have ON4 := Lib.hid on4; have OD4 := Lib.hid od4; clear on4 od4; obtain ⟨an4, cn4, rfl, -, -, -, -⟩ := ON4.out.rd.shape; obtain ⟨ad4, cd4, rfl, -, -, -, -⟩ := OD4.out.rd.shape; (first | have XE := Ext.trans XE b4 | have XE := Ext.trans (Ext.trans XE (Ext.alloc _ _)) b4)
      go_wp2_with fail
      refine hK.out _ _ ((C1.out.ext XE).c6) (fun hHeld => ?_)
      clear hK K
      try simp only [Act.put, List.getElem_toArray, List.getElem_cons_succ, List.getElem_cons_zero, List.setIfInBounds_toArray, List.set_cons_zero, List.set_cons_succ]
      refine wpAnyH_take (i := 7) (v := ?_) rfl (by kernel_rfl) (by kernel_rfl) (by kernel_rfl) (fun _ _ _ h => h) (Or.inl ⟨by rfl, fun w0 hSw => ?_⟩) hHeld ?_
      rotate_left
      · (try dsimp only at hSw)
        go_simp
        try with_reducible rfl
      simp only [Act.put, List.getElem_toArray, List.getElem_cons_succ, List.getElem_cons_zero, List.setIfInBounds_toArray, List.set_cons_zero, List.set_cons_succ]
      refine wpAnyH_ready (rs := [8]) (by kernel_rfl) (by simp) ?_
      refine AllReadyH.cons (o := _) rfl (fun K hK => ?_) AllReadyH.nil
      go_simp
      refine hK.out _ _ ((C1.out.ext (Ext.trans XE (Ext.alloc _ _))).c6) (fun hHeld => ?_)
      clear hK K
      try simp only [Act.put, List.getElem_toArray, List.getElem_cons_succ, List.getElem_cons_zero, List.setIfInBounds_toArray, List.set_cons_zero, List.set_cons_succ]
      refine wpAnyH_ready (rs := [9]) (by kernel_rfl) (by simp) ?_
      refine AllReadyH.cons (o := _) rfl (fun K hK => ?_) AllReadyH.nil
      refine if_wanted rfl ?_
      refine append_rdK et17P _ _ rfl w.heap.size rfl (Ext.owns (Ext.trans b1 (Ext.trans (Ext.trans b2 (Ext.trans b3 b4)) (Ext.alloc _ _))) hE) rfl (RdV.lit _ _ _ 6 1 rfl (by unfold maxLen; omega)) one6 (by omega) (by unfold maxLen; omega) (by have := Below.size (Ext.trans b1 (Ext.trans b2 (Ext.trans b3 b4))); simp; omega) ?_
      intro v9 w9 o9 b9 hg9
      have X4 := Lib.hid (Ext.trans b1 (Ext.trans (Ext.trans b2 (Ext.trans b3 b4)) (Ext.alloc w4 (.cells #[.bool (decide (p.num < 0)), .slice an3 (bitsOf p.num.natAbs).length cn3, .slice ad3 (bitsOf p.den).length cd3, .bool (decide (q.num < 0)), .slice an4 (bitsOf q.num.natAbs).length cn4, .slice ad4 (bitsOf q.den).length cd4] 48))))
      have O9 : Hid (OwnRow 6 (OwnEp 4) 48 w.heap.size w9 v9 (l.take k ++ [(p, q)])) := OwnRow.snocT (HPW.out.mono fun _ _ h => OwnEp.ext h X4.out) (fun v a h => OwnEp.grown h (Ext.owns X4.out hE) (by decide) hg9) (by rw [HKL.out]; exact o9) rfl ⟨_, _, _, _, rfl, (ON3.out.ext (Ext.trans b4 (Ext.alloc _ _))).mono (Nat.zero_le _), (OD3.out.ext (Ext.trans b4 (Ext.alloc _ _))).mono (Nat.zero_le _), (ON4.out.ext (Ext.alloc _ _)).mono (Nat.zero_le _), (OD4.out.ext (Ext.alloc _ _)).mono (Nat.zero_le _)⟩
      have hne9 : _ ≠ some wr.heap.size := fun h => Nat.lt_irrefl _ (World.ownsRow.lt HE.out _ h).2
      refine hK.out _ _ (Bx.grown (C1.out.ext (Ext.trans (Ext.trans b2 (Ext.trans b3 b4)) (Ext.alloc _ _))) hne9 hg9).c6 (fun hHeld => ?_)
      clear hK K
      try simp only [Act.put, List.getElem_toArray, List.getElem_cons_succ, List.getElem_cons_zero, List.setIfInBounds_toArray, List.set_cons_zero, List.set_cons_succ]
      refine wpAnyH_take (i := 10) (v := ?_) rfl (by kernel_rfl) (by kernel_rfl) (by kernel_rfl) (fun _ _ _ h => h) (Or.inl ⟨by rfl, fun w0 hSw => ?_⟩) hHeld ?_
      rotate_left
      · (try dsimp only at hSw)
        go_simp
        try with_reducible rfl
      simp only [Act.put, List.getElem_toArray, List.getElem_cons_succ, List.getElem_cons_zero, List.setIfInBounds_toArray, List.set_cons_zero, List.set_cons_succ]
      refine wpAnyH_done (by kernel_rfl) ?_ _
      refine NoPanic.normal ?_
      go_wp2_with fail
      go_roundw
      case rel =>
        refine ⟨k + 1, by go_num, by omega, Below.trans (Ext.trans hx X4.out) b9, ?_⟩
        rw [hsnoc.out]
        exact O9.out
      case measure => simp [intOf] <;> omega
    · obtain rfl : k = l.length := by omega
      have HX : Hid (l.take l.length = l) := List.take_length
      go_wp2_with fail
      exact hR.out _ _ (Gives.mk hx (by rw [← HX.out]; exact hO.out))
end Go.Proofs.Ytnbbhpihlcglgaa
