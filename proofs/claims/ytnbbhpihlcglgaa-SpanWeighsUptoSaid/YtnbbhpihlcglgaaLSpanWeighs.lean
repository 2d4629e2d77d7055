/- SpanWeighs: the range of a weighted sum holds every such sum, and both its ends are reached. Conditions: the arguments hold together at most 1048576 values (the second form, Upto). -/
import Derived.Test.YtnbbhpihlcglgaaFrameR
import Derived.Test.YtnbbhpihlcglgaaPAwake17
import Derived.Test.YtnbbhpihlcglgaaRowOne
import Derived.Test.YtnbbhpihlcglgaaWeighAll
import Derived.Test.YtnbbhpihlcglgaaSet1
namespace Go.Proofs.Ytnbbhpihlcglgaa.spanWeighs
open Go.ChangeShapes Go.WideShapes Go.ChangeAt Go.RowKit Go.Att

theorem _root_.Go.Att.Bo.set1 {w : World} {b o c : Nat} {cs : List Value} (h : Bo w b o cs) (hne : b ≠ c) (i : Nat) (v : Value) : Bo (w.setCell ⟨c, i, none⟩ v) b o cs := h.putL hne i [v]
theorem sz_rowN {w : World} {v : Value} {l : List NN} (hv : RdRow 3 RdNp w v l) (n : Nat) : ∀ p ∈ (l.take n).map qN, Sz 8 p := by
  intro p hp
  obtain ⟨q, hq, rfl⟩ := List.mem_map.1 hp
  obtain ⟨i, hi, rfl⟩ := List.getElem_of_mem (List.mem_of_mem_take hq)
  obtain ⟨a, c, rfl, -, -⟩ := hv.shape
  obtain ⟨_, _, cs, -, -, hT, -⟩ := hv.at (by decide) i hi
  obtain ⟨_, _, _, h1, h2⟩ := hT
  exact qOf_sz h1.2 h2.2
theorem sz_row {w : World} {v : Value} {l : List (NN × NN)} (hv : RdRow 6 RdNDp w v l) (n : Nat) : ∀ p ∈ (l.take n).map qND, Sz 8 p.1 ∧ Sz 8 p.2 := by
  intro p hp
  obtain ⟨q, hq, rfl⟩ := List.mem_map.1 hp
  obtain ⟨i, hi, rfl⟩ := List.getElem_of_mem (List.mem_of_mem_take hq)
  obtain ⟨a, c, rfl, -, -⟩ := hv.shape
  obtain ⟨_, _, cs, -, -, hT, -⟩ := hv.at (by decide) i hi
  obtain ⟨_, _, _, _, _, _, -, ⟨_, _, _, h1, h2⟩, ⟨_, _, _, h3, h4⟩⟩ := hT
  exact ⟨qOf_sz h1.2 h2.2, qOf_sz h3.2 h4.2⟩
set_option maxHeartbeats 100000000 in
set_option maxRecDepth 100000 in
set_option linter.unusedSimpArgs false in
theorem walk {w : World} {v0 v1 v2 v3 : Value} {l0 l3 : List NN} {l2 : List (NN × NN)} {s1 : Bool} {x1 y1 : List Nat} (hv0 : RdRow 3 RdNp w v0 l0) (hb0 : ∀ p ∈ l0, bN p ≤ 1048576) (hn0 : l0.length ≤ 1048576)
    (hv1 : RdN w v1 s1 x1 y1) (hx1 : x1.length ≤ 1048576) (hy1 : y1.length ≤ 1048576)
    (hv2 : RdRow 6 RdNDp w v2 l2) (hb2 : ∀ p ∈ l2, bND p ≤ 1048576) (hn2 : l2.length ≤ 1048576)
    (hv3 : RdRow 3 RdNp w v3 l3) (hb3 : ∀ p ∈ l3, bN p ≤ 1048576) (hn3 : l3.length ≤ 1048576) :
    Calls Try.prog 3 #[v0, v1, v2, v3] w (Gives w fun v' _ => v' = .bool true) := by
  refine via fun R hR => ?_
  have SL := Lib.hid (sz_rowN hv0 34)
  have SM := Lib.hid (sz_row hv2 34)
  have SP := Lib.hid (sz_rowN hv3 34)
  have SQ : Hid (Sz 8 (qOf s1 x1 y1)) := by obtain ⟨_, _, _, h1, h2⟩ := hv1; exact qOf_sz h1.2 h2.2
  have HR0 : Hid (∀ (w : World) (v : Value), RdRow 3 RdNp w v l0 → Calls Try.prog 15 #[v] w (Gives w fun v' w' => RQ w' v' ((l0.take 34).map qN))) := fun w v h => (rats_any h (fun p hp => by
    have := hb0 p hp
    unfold bN at this
    exact ⟨by omega, by omega⟩)).mono fun _ _ ⟨v, e, b, o⟩ => ⟨v, e, b, OwnRow.rd o⟩
  have HR3 : Hid (∀ (w : World) (v : Value), RdRow 3 RdNp w v l3 → Calls Try.prog 15 #[v] w (Gives w fun v' w' => RQ w' v' ((l3.take 34).map qN))) := fun w v h => (rats_any h (fun p hp => by
    have := hb3 p hp
    unfold bN at this
    exact ⟨by omega, by omega⟩)).mono fun _ _ ⟨v, e, b, o⟩ => ⟨v, e, b, OwnRow.rd o⟩
  have HLI : Hid (∀ (w : World) (v : Value), RdRow 6 RdNDp w v l2 → Calls Try.prog 16 #[v] w (Gives w fun v' w' => RD6 w' v' ((l2.take 34).map qND))) := fun w v h => (list17_any h (fun p hp => by
    have := hb2 p hp
    unfold bND bN at this
    exact ⟨⟨by omega, by omega⟩, ⟨by omega, by omega⟩⟩)).mono fun _ _ ⟨v, e, b, o⟩ => ⟨v, e, b, OwnRow.rd o⟩
  have HOF : Hid (∀ (w : World) (v : Value), RdN w v s1 x1 y1 → Calls Try.prog 18 #[v] w (Gives w fun v' w' => OwnQ 163 0 w' v' (qOf s1 x1 y1))) := fun w v h => (of8_any h (by omega) (by omega)).mono fun _ _ ⟨v, e, b, o⟩ => ⟨v, e, b, o.mono (Nat.zero_le _)⟩
  have NL : Hid (((l0.take 34).map qN).length ≤ 34) := by show _ ≤ _; rw [List.length_map, List.length_take]; omega
  have NM : Hid (((l2.take 34).map qND).length ≤ 34) := by show _ ≤ _; rw [List.length_map, List.length_take]; omega
  have NP : Hid (((l3.take 34).map qN).length ≤ 34) := by show _ ≤ _; rw [List.length_map, List.length_take]; omega
  obtain ⟨a0, c0, rfl, -, -⟩ := hv0.shape
  obtain ⟨a2, c2, rfl, -, -⟩ := hv2.shape
  obtain ⟨a3, c3, rfl, -, -⟩ := hv3.shape
  have HV0 := Lib.hid hv0
  have HV1 := Lib.hid hv1
  have HV2 := Lib.hid hv2
  have HV3 := Lib.hid hv3
  obtain ⟨t1, t2, rfl, -, -⟩ := hv1
  clear hv0 hv2 hv3 hb0 hb2 hb3
  generalize (l0.take 34).map qN = L at *
  generalize (l2.take 34).map qND = M at *
  generalize (l3.take 34).map qN = P at *
  generalize qOf s1 x1 y1 = q at *
  obtain ⟨ee, A, B, HWG, HC⟩ : ∃ (ee : Int) (A B : Rat), Hid (∀ (w : World) (va vb vc : Value), RQ w va L → OwnQ 163 0 w vb q → RD6 w vc M → Calls Try.prog 17 #[va, vb, vc] w (Gives w fun v' w' => Wr w' v' ee A B)) ∧
      Hid (((L.length : Int) != (M.length : Int)) = true ∧ ee = 1 ∧ A = 0 ∧ B = 0 ∨ ((L.length : Int) != (M.length : Int)) = false ∧ L.length = M.length ∧ ee = 0 ∧ wfold (L.zip M) (q, q) = (A, B)) := by
    by_cases h : L.length = M.length
    · exact ⟨0, _, _, fun w va vb vc h1 h2 h3 => sweigh_any h1.rd h3.rd h h2 SL.out SM.out SQ.out (by decide) (by have := NL.out; omega), .inr ⟨by rw [h]; exact bne_self_eq_false _, h, rfl, rfl⟩⟩
    · exact ⟨1, 0, 0, fun w va vb vc h1 h2 h3 => (sweigh_no h1.rd h3.rd h h2.rd).mono fun _ _ ⟨v, e, b, o⟩ => ⟨v, e, b, _, o, ownD_zero⟩, .inl ⟨by simp only [bne_iff_ne]; omega, rfl, rfl, rfl⟩⟩
  obtain ⟨w1, hw1, b1, c1, -, -⟩ := bx1 w [.bool s1, t1, t2] 25
  have C1 := Lib.hid c1
  have HW := Lib.hid hw1
  have SZ1 : Hid (w.heap.size < w1.heap.size) := World.block_lt_of_cell? w1 _ c1.c3.1
  clear hw1 c1
  go_enter Try.func3, Try.ntmps3
  go_upto_region 1 with (fail)
  rw [← HW.out]
  clear HW
  go_wp2_with fail
  refine (HR0.out _ _ (HV0.out.ext RdNp.ext b1)).mono ?_
  rintro e w2 ⟨v4, rfl, b2, o4⟩
  have RL := Lib.hid o4
  obtain ⟨a4, c4, rfl, hc4, hm4⟩ := RdRow.shape o4
  clear o4
  go_wp2_with fail
  refine (HLI.out _ _ (HV2.out.ext RdNDp.ext (Ext.trans b1 b2))).mono ?_
  rintro e w3 ⟨v5, rfl, b3, o5⟩
  have RM := Lib.hid o5
  obtain ⟨a5, c5, rfl, hc5, hm5⟩ := RdRow.shape o5
  clear o5
  go_upto_region 2 with (fail)
  have D1 := Lib.hid (C1.out.ext (Ext.trans b2 b3))
  have SZ3 : Hid (w.heap.size < w3.heap.size) := by have h1 := SZ1.out; have h2 := Below.size (Ext.trans b2 b3); show _ < _; omega
  have b03 := (Ext.trans b1 (Ext.trans b2 b3))
  go_cut [11, 12] (fun s11 s12 wx => ∃ (E : Nat) (x0 x1 x2 x3 x4 x5 : Value), s11 = .pointer (some ⟨E, 0, none⟩) ∧ s12 = .int .i64 ee ∧ Ext w3 wx ∧ Hid (Bx wx E [x0, x1, x2, x3, x4, x5]) ∧ Hid (OwnD 163 0 wx (.agg #[x0, x1, x2, x3, x4, x5]) A B))
  case first =>
    as_aux_lemma =>
      refine wp_region_noPanic ?_
      refine wp_region_held_drew (S := fun w' => w'.cell? ⟨w.heap.size, 0, none⟩ = some (.bool s1) ∧ w'.cell? ⟨w.heap.size, 1, none⟩ = some (t1) ∧ w'.cell? ⟨w.heap.size, 2, none⟩ = some (t2)) (by kernel_rfl) ((D1.out.ext (drew_ext w3)).c3) (fun hHeld => ?_)
      refine wpAnyH_take (i := 0) (v := ?_) rfl (by kernel_rfl) (by kernel_rfl) (by kernel_rfl) (fun _ _ _ h => h) (Or.inl ⟨by rfl, fun w0 hSw => ?_⟩) hHeld ?_
      rotate_left
      · (try dsimp only at hSw)
        go_simp
        try with_reducible rfl
      simp only [Act.put, List.getElem_toArray, List.getElem_cons_succ, List.getElem_cons_zero, List.setIfInBounds_toArray, List.set_cons_zero, List.set_cons_succ]
      refine wpAnyH_take (i := 2) (v := ?_) rfl (by kernel_rfl) (by kernel_rfl) (by kernel_rfl) (fun _ _ _ h => h) (Or.inl ⟨by rfl, fun w0 hSw => ?_⟩) hHeld ?_
      rotate_left
      · (try dsimp only at hSw)
        go_simp
        try with_reducible rfl
      simp only [Act.put, List.getElem_toArray, List.getElem_cons_succ, List.getElem_cons_zero, List.setIfInBounds_toArray, List.set_cons_zero, List.set_cons_succ]
      refine wpAnyH_take (i := 4) (v := ?_) rfl (by kernel_rfl) (by kernel_rfl) (by kernel_rfl) (fun _ _ _ h => h) (Or.inl ⟨by rfl, fun w0 hSw => ?_⟩) hHeld ?_
      rotate_left
      · (try dsimp only at hSw)
        go_simp
        try with_reducible rfl
      simp only [Act.put, List.getElem_toArray, List.getElem_cons_succ, List.getElem_cons_zero, List.setIfInBounds_toArray, List.set_cons_zero, List.set_cons_succ]
      refine anyH_cap fun O Q9 AA hO hQ hA => ?_
      obtain ⟨SS, hSS⟩ : ∃ SS : World → Prop, Hid (SS = fun w' => w'.cell? ⟨w.heap.size, 0, none⟩ = some (.bool s1) ∧ w'.cell? ⟨w.heap.size, 1, none⟩ = some (t1) ∧ w'.cell? ⟨w.heap.size, 2, none⟩ = some (t2)) := ⟨_, rfl⟩
      have KP : Hid (∀ wv, Ext w3 wv → SS wv) := fun wv XE => by rw [hSS.out]; exact (D1.out.ext XE).c3
      have L7_10 : ∀ (wv : World) (v1 v3 v5 v6 v7 v8 v9 : Value) (B10 : Nat), Hid (Ext w3 wv) → Hid (RQ wv v1 L) → Hid (OwnQ 163 0 wv v3 q) → Hid (RD6 wv v5 M) → Hid (Wr wv v6 ee A B) → Hid (Wr wv v7 ee A B) → Hid (Wr wv (.tuple #[v8, .int .i64 ee]) ee A B) → Hid (Wr wv (.tuple #[v8, v9]) ee A B) → Hid (Rt wv B10 6 34) → Hid (w3.heap.size ≤ B10) → wpAnyH Try.prog .any O Q9 SS 2 #[true, true, true, true, true, true, true, true, true, true, true, false, false] ((((((((AA.put (some 27) v1).put (some 29) v3).put (some 31) v5).put (some 32) v6).put (some 25) v7).put (some 33) v8).put (some 34) v9).put (some 11) (.pointer (some ⟨B10, 0, none⟩))) wv := by
        intro wv v1 v3 v5 v6 v7 v8 v9 B10 hX p1 p3 p5 p6 p7 p8 p9 r10 s10
        have hO1 := hO.out
        have hQ1 := hQ.out
        have hA1 := hA.out
        subst hO1
        subst hQ1
        subst hA1
        have XE := hX.out
        have hHeld := KP.out _ XE
        have hS1 := hSS.out
        subst hS1
        try simp only [Act.put, List.getElem_toArray, List.getElem_cons_succ, List.getElem_cons_zero, List.setIfInBounds_toArray, List.set_cons_zero, List.set_cons_succ]
        have k0_10 : w.heap.size ≠ B10 := by have h1 := s10.out; have hz0 := SZ3.out; omega
        obtain ⟨_, _, _, _, _, _, i10_0, i10_1, i10_2, i10_3, i10_4, i10_5, f10_0, f10_1, f10_2, f10_3, f10_4, f10_5⟩ := r10.out.rm.c6
        obtain ⟨o7, he7, oo7⟩ := p9.out
        obtain ⟨rfl, rfl⟩ : v8 = o7 ∧ v9 = .int .i64 ee := by simpa using he7
        obtain ⟨_, _, _, _, _, _, _, _, _, _, _, _, _, _, rfl, OO⟩ := oo7.op
        refine wpAnyH_ready (rs := [11]) (by kernel_rfl) (by simp) ?_
        refine AllReadyH.cons (o := _) rfl (fun K hK => ?_) AllReadyH.nil
        go_simp
        refine hK.out _ _ (((D1.out.ext XE).putL k0_10 0 [_, _, _, _, _, _]).c3) (fun hHeld => ?_)
        clear hK K
        try simp only [Act.put, List.getElem_toArray, List.getElem_cons_succ, List.getElem_cons_zero, List.setIfInBounds_toArray, List.set_cons_zero, List.set_cons_succ]
        refine wpAnyH_take (i := 12) (v := ?_) rfl (by kernel_rfl) (by kernel_rfl) (by kernel_rfl) (fun _ _ _ h => h) (Or.inl ⟨by rfl, fun w0 hSw => ?_⟩) hHeld ?_
        rotate_left
        · (try dsimp only at hSw)
          go_simp
          try with_reducible rfl
        simp only [Act.put, List.getElem_toArray, List.getElem_cons_succ, List.getElem_cons_zero, List.setIfInBounds_toArray, List.set_cons_zero, List.set_cons_succ]
        refine wpAnyH_done (by kernel_rfl) ?_ _
        refine NoPanic.normal ?_
        go_wp2_with fail
        go_meet
        exact ⟨_, _, _, _, _, _, _, rfl, rfl, put6_below hX.out s10.out _ _ _ _ _ _, Lib.hid (r10.out.putL_at [_, _, _, _, _, _] rfl).1, Lib.hid (OwnD.putS OO.out r10.out (by decide) 0 [_, _, _, _, _, _])⟩
      have L6_10 : ∀ (wv : World) (v1 v3 v5 v6 v7 v8 : Value) (B10 : Nat), Hid (Ext w3 wv) → Hid (RQ wv v1 L) → Hid (OwnQ 163 0 wv v3 q) → Hid (RD6 wv v5 M) → Hid (Wr wv v6 ee A B) → Hid (Wr wv v7 ee A B) → Hid (Wr wv (.tuple #[v8, .int .i64 ee]) ee A B) → Hid (Rt wv B10 6 34) → Hid (w3.heap.size ≤ B10) → wpAnyH Try.prog .any O Q9 SS 3 #[true, true, true, true, true, true, true, true, true, false, true, false, false] (((((((AA.put (some 27) v1).put (some 29) v3).put (some 31) v5).put (some 32) v6).put (some 25) v7).put (some 33) v8).put (some 11) (.pointer (some ⟨B10, 0, none⟩))) wv := by
        intro wv v1 v3 v5 v6 v7 v8 B10 hX p1 p3 p5 p6 p7 p8 r10 s10
        have hO1 := hO.out
        have hQ1 := hQ.out
        have hA1 := hA.out
        subst hO1
        subst hQ1
        subst hA1
        have XE := hX.out
        have hHeld := KP.out _ XE
        have hS1 := hSS.out
        subst hS1
        try simp only [Act.put, List.getElem_toArray, List.getElem_cons_succ, List.getElem_cons_zero, List.setIfInBounds_toArray, List.set_cons_zero, List.set_cons_succ]
        obtain ⟨o7, rfl, oo7⟩ := p7.out
        refine wpAnyH_take (i := 9) (v := ?_) rfl (by kernel_rfl) (by kernel_rfl) (by kernel_rfl) (fun _ _ _ h => h) (Or.inl ⟨by rfl, fun w0 hSw => ?_⟩) hHeld ?_
        rotate_left
        · (try dsimp only at hSw)
          go_simp
          try with_reducible rfl
        simp only [Act.put, List.getElem_toArray, List.getElem_cons_succ, List.getElem_cons_zero, List.setIfInBounds_toArray, List.set_cons_zero, List.set_cons_succ]
        exact wpAnyH_at (L7_10 wv _ _ _ _ _ _ _ B10 hX.out p1.out p3.out p5.out p6.out p7.out p8.out (p8.out) r10.out s10.out) (by kernel_rfl) (by kernel_rfl) (by kernel_rfl)
      have L7_ : ∀ (wv : World) (v1 v3 v5 v6 v7 v8 v9 : Value), Hid (Ext w3 wv) → Hid (RQ wv v1 L) → Hid (OwnQ 163 0 wv v3 q) → Hid (RD6 wv v5 M) → Hid (Wr wv v6 ee A B) → Hid (Wr wv v7 ee A B) → Hid (Wr wv (.tuple #[v8, .int .i64 ee]) ee A B) → Hid (Wr wv (.tuple #[v8, v9]) ee A B) → wpAnyH Try.prog .any O Q9 SS 3 #[true, true, true, true, true, true, true, true, true, true, false, false, false] (((((((AA.put (some 27) v1).put (some 29) v3).put (some 31) v5).put (some 32) v6).put (some 25) v7).put (some 33) v8).put (some 34) v9) wv := by
        intro wv v1 v3 v5 v6 v7 v8 v9 hX p1 p3 p5 p6 p7 p8 p9
        have hO1 := hO.out
        have hQ1 := hQ.out
        have hA1 := hA.out
        subst hO1
        subst hQ1
        subst hA1
        have XE := hX.out
        try simp only [Act.put, List.getElem_toArray, List.getElem_cons_succ, List.getElem_cons_zero, List.setIfInBounds_toArray, List.set_cons_zero, List.set_cons_succ]
        refine wpAnyH_ready (rs := [10]) (by kernel_rfl) (by simp) ?_
        refine AllReadyH.cons (o := _) rfl (fun K hK => ?_) AllReadyH.nil
        go_simp
        refine hK.out _ _ (KP.out _ (Ext.trans XE (Ext.alloc _ _))) (fun _ => ?_)
        clear hK K
        try simp only [Act.put, List.getElem_toArray, List.getElem_cons_succ, List.getElem_cons_zero, List.setIfInBounds_toArray, List.set_cons_zero, List.set_cons_succ]
        exact wpAnyH_at (L7_10 _ v1 v3 v5 v6 v7 v8 v9 wv.heap.size (Ext.trans XE (Ext.alloc wv (.cells [.bool false, .slice none 0 0, .slice none 0 0, .bool false, .slice none 0 0, .slice none 0 0].toArray 34))) (p1.out.ext (Ext.alloc wv (.cells [.bool false, .slice none 0 0, .slice none 0 0, .bool false, .slice none 0 0, .slice none 0 0].toArray 34))) (p3.out.ext (Ext.alloc wv (.cells [.bool false, .slice none 0 0, .slice none 0 0, .bool false, .slice none 0 0, .slice none 0 0].toArray 34))) (p5.out.ext (Ext.alloc wv (.cells [.bool false, .slice none 0 0, .slice none 0 0, .bool false, .slice none 0 0, .slice none 0 0].toArray 34))) (p6.out.ext (Ext.alloc wv (.cells [.bool false, .slice none 0 0, .slice none 0 0, .bool false, .slice none 0 0, .slice none 0 0].toArray 34))) (p7.out.ext (Ext.alloc wv (.cells [.bool false, .slice none 0 0, .slice none 0 0, .bool false, .slice none 0 0, .slice none 0 0].toArray 34))) (p8.out.ext (Ext.alloc wv (.cells [.bool false, .slice none 0 0, .slice none 0 0, .bool false, .slice none 0 0, .slice none 0 0].toArray 34))) (p9.out.ext (Ext.alloc wv (.cells [.bool false, .slice none 0 0, .slice none 0 0, .bool false, .slice none 0 0, .slice none 0 0].toArray 34))) (Rt.new wv [.bool false, .slice none 0 0, .slice none 0 0, .bool false, .slice none 0 0, .slice none 0 0] 34) (Below.size XE)) (by kernel_rfl) (by kernel_rfl) (by kernel_rfl)
      have L5_10 : ∀ (wv : World) (v1 v3 v5 v6 v7 : Value) (B10 : Nat), Hid (Ext w3 wv) → Hid (RQ wv v1 L) → Hid (OwnQ 163 0 wv v3 q) → Hid (RD6 wv v5 M) → Hid (Wr wv v6 ee A B) → Hid (Wr wv v7 ee A B) → Hid (Rt wv B10 6 34) → Hid (w3.heap.size ≤ B10) → wpAnyH Try.prog .any O Q9 SS 4 #[true, true, true, true, true, true, true, true, false, false, true, false, false] ((((((AA.put (some 27) v1).put (some 29) v3).put (some 31) v5).put (some 32) v6).put (some 25) v7).put (some 11) (.pointer (some ⟨B10, 0, none⟩))) wv := by
        intro wv v1 v3 v5 v6 v7 B10 hX p1 p3 p5 p6 p7 r10 s10
        have hO1 := hO.out
        have hQ1 := hQ.out
        have hA1 := hA.out
        subst hO1
        subst hQ1
        subst hA1
        have XE := hX.out
        have hHeld := KP.out _ XE
        have hS1 := hSS.out
        subst hS1
        try simp only [Act.put, List.getElem_toArray, List.getElem_cons_succ, List.getElem_cons_zero, List.setIfInBounds_toArray, List.set_cons_zero, List.set_cons_succ]
        obtain ⟨o7, rfl, oo7⟩ := p7.out
        refine wpAnyH_take (i := 8) (v := ?_) rfl (by kernel_rfl) (by kernel_rfl) (by kernel_rfl) (fun _ _ _ h => h) (Or.inl ⟨by rfl, fun w0 hSw => ?_⟩) hHeld ?_
        rotate_left
        · (try dsimp only at hSw)
          go_simp
          try with_reducible rfl
        simp only [Act.put, List.getElem_toArray, List.getElem_cons_succ, List.getElem_cons_zero, List.setIfInBounds_toArray, List.set_cons_zero, List.set_cons_succ]
        exact wpAnyH_at (L6_10 wv _ _ _ _ _ _ B10 hX.out p1.out p3.out p5.out p6.out p7.out (p7.out) r10.out s10.out) (by kernel_rfl) (by kernel_rfl) (by kernel_rfl)
      have L6_ : ∀ (wv : World) (v1 v3 v5 v6 v7 v8 : Value), Hid (Ext w3 wv) → Hid (RQ wv v1 L) → Hid (OwnQ 163 0 wv v3 q) → Hid (RD6 wv v5 M) → Hid (Wr wv v6 ee A B) → Hid (Wr wv v7 ee A B) → Hid (Wr wv (.tuple #[v8, .int .i64 ee]) ee A B) → wpAnyH Try.prog .any O Q9 SS 4 #[true, true, true, true, true, true, true, true, true, false, false, false, false] ((((((AA.put (some 27) v1).put (some 29) v3).put (some 31) v5).put (some 32) v6).put (some 25) v7).put (some 33) v8) wv := by
        intro wv v1 v3 v5 v6 v7 v8 hX p1 p3 p5 p6 p7 p8
        have hO1 := hO.out
        have hQ1 := hQ.out
        have hA1 := hA.out
        subst hO1
        subst hQ1
        subst hA1
        have XE := hX.out
        have hHeld := KP.out _ XE
        have hS1 := hSS.out
        subst hS1
        try simp only [Act.put, List.getElem_toArray, List.getElem_cons_succ, List.getElem_cons_zero, List.setIfInBounds_toArray, List.set_cons_zero, List.set_cons_succ]
        obtain ⟨o7, rfl, oo7⟩ := p7.out
        refine wpAnyH_take (i := 9) (v := ?_) rfl (by kernel_rfl) (by kernel_rfl) (by kernel_rfl) (fun _ _ _ h => h) (Or.inl ⟨by rfl, fun w0 hSw => ?_⟩) hHeld ?_
        rotate_left
        · (try dsimp only at hSw)
          go_simp
          try with_reducible rfl
        simp only [Act.put, List.getElem_toArray, List.getElem_cons_succ, List.getElem_cons_zero, List.setIfInBounds_toArray, List.set_cons_zero, List.set_cons_succ]
        exact wpAnyH_at (L7_ wv _ _ _ _ _ _ _ hX.out p1.out p3.out p5.out p6.out p7.out p8.out (p8.out)) (by kernel_rfl) (by kernel_rfl) (by kernel_rfl)
      have L4_10 : ∀ (wv : World) (v1 v3 v5 v6 : Value) (B10 : Nat), Hid (Ext w3 wv) → Hid (RQ wv v1 L) → Hid (OwnQ 163 0 wv v3 q) → Hid (RD6 wv v5 M) → Hid (Wr wv v6 ee A B) → Hid (Rt wv B10 6 34) → Hid (w3.heap.size ≤ B10) → wpAnyH Try.prog .any O Q9 SS 5 #[true, true, true, true, true, true, true, false, false, false, true, false, false] (((((AA.put (some 27) v1).put (some 29) v3).put (some 31) v5).put (some 32) v6).put (some 11) (.pointer (some ⟨B10, 0, none⟩))) wv := by
        intro wv v1 v3 v5 v6 B10 hX p1 p3 p5 p6 r10 s10
        have hO1 := hO.out
        have hQ1 := hQ.out
        have hA1 := hA.out
        subst hO1
        subst hQ1
        subst hA1
        have XE := hX.out
        have hHeld := KP.out _ XE
        have hS1 := hSS.out
        subst hS1
        try simp only [Act.put, List.getElem_toArray, List.getElem_cons_succ, List.getElem_cons_zero, List.setIfInBounds_toArray, List.set_cons_zero, List.set_cons_succ]
        refine wpAnyH_take (i := 7) (v := ?_) rfl (by kernel_rfl) (by kernel_rfl) (by kernel_rfl) (fun _ _ _ h => h) (Or.inl ⟨by rfl, fun w0 hSw => ?_⟩) hHeld ?_
        rotate_left
        · (try dsimp only at hSw)
          go_simp
          try with_reducible rfl
        simp only [Act.put, List.getElem_toArray, List.getElem_cons_succ, List.getElem_cons_zero, List.setIfInBounds_toArray, List.set_cons_zero, List.set_cons_succ]
        exact wpAnyH_at (L5_10 wv _ _ _ _ _ B10 hX.out p1.out p3.out p5.out p6.out (p6.out) r10.out s10.out) (by kernel_rfl) (by kernel_rfl) (by kernel_rfl)
      have L5_ : ∀ (wv : World) (v1 v3 v5 v6 v7 : Value), Hid (Ext w3 wv) → Hid (RQ wv v1 L) → Hid (OwnQ 163 0 wv v3 q) → Hid (RD6 wv v5 M) → Hid (Wr wv v6 ee A B) → Hid (Wr wv v7 ee A B) → wpAnyH Try.prog .any O Q9 SS 5 #[true, true, true, true, true, true, true, true, false, false, false, false, false] (((((AA.put (some 27) v1).put (some 29) v3).put (some 31) v5).put (some 32) v6).put (some 25) v7) wv := by
        intro wv v1 v3 v5 v6 v7 hX p1 p3 p5 p6 p7
        have hO1 := hO.out
        have hQ1 := hQ.out
        have hA1 := hA.out
        subst hO1
        subst hQ1
        subst hA1
        have XE := hX.out
        have hHeld := KP.out _ XE
        have hS1 := hSS.out
        subst hS1
        try simp only [Act.put, List.getElem_toArray, List.getElem_cons_succ, List.getElem_cons_zero, List.setIfInBounds_toArray, List.set_cons_zero, List.set_cons_succ]
        obtain ⟨o7, rfl, oo7⟩ := p7.out
        refine wpAnyH_take (i := 8) (v := ?_) rfl (by kernel_rfl) (by kernel_rfl) (by kernel_rfl) (fun _ _ _ h => h) (Or.inl ⟨by rfl, fun w0 hSw => ?_⟩) hHeld ?_
        rotate_left
        · (try dsimp only at hSw)
          go_simp
          try with_reducible rfl
        simp only [Act.put, List.getElem_toArray, List.getElem_cons_succ, List.getElem_cons_zero, List.setIfInBounds_toArray, List.set_cons_zero, List.set_cons_succ]
        exact wpAnyH_at (L6_ wv _ _ _ _ _ _ hX.out p1.out p3.out p5.out p6.out p7.out (p7.out)) (by kernel_rfl) (by kernel_rfl) (by kernel_rfl)
      have L3_10 : ∀ (wv : World) (v1 v3 v5 : Value) (B10 : Nat), Hid (Ext w3 wv) → Hid (RQ wv v1 L) → Hid (OwnQ 163 0 wv v3 q) → Hid (RD6 wv v5 M) → Hid (Rt wv B10 6 34) → Hid (w3.heap.size ≤ B10) → wpAnyH Try.prog .any O Q9 SS 6 #[true, true, true, true, true, true, false, false, false, false, true, false, false] ((((AA.put (some 27) v1).put (some 29) v3).put (some 31) v5).put (some 11) (.pointer (some ⟨B10, 0, none⟩))) wv := by
        intro wv v1 v3 v5 B10 hX p1 p3 p5 r10 s10
        have hO1 := hO.out
        have hQ1 := hQ.out
        have hA1 := hA.out
        subst hO1
        subst hQ1
        subst hA1
        have XE := hX.out
        try simp only [Act.put, List.getElem_toArray, List.getElem_cons_succ, List.getElem_cons_zero, List.setIfInBounds_toArray, List.set_cons_zero, List.set_cons_succ]
        refine wpAnyH_ready (rs := [6]) (by kernel_rfl) (by simp) ?_
        refine AllReadyH.cons (o := _) rfl (fun K hK => ?_) AllReadyH.nil
        go_simp
        go_at_call 17
        refine (HWG.out _ _ _ _ p1.out p3.out p5.out).mono ?_
        rintro e wn ⟨vn, rfl, bn, on⟩
        go_wp2_with fail
        refine hK.out _ _ (KP.out _ (Ext.trans XE bn)) (fun _ => ?_)
        clear hK K
        try simp only [Act.put, List.getElem_toArray, List.getElem_cons_succ, List.getElem_cons_zero, List.setIfInBounds_toArray, List.set_cons_zero, List.set_cons_succ]
        exact wpAnyH_at (L4_10 wn v1 v3 v5 vn B10 (Ext.trans XE bn) (p1.out.ext bn) (p3.out.ext bn) (p5.out.ext bn) (on) (r10.out.ext bn) s10) (by kernel_rfl) (by kernel_rfl) (by kernel_rfl)
      have L4_ : ∀ (wv : World) (v1 v3 v5 v6 : Value), Hid (Ext w3 wv) → Hid (RQ wv v1 L) → Hid (OwnQ 163 0 wv v3 q) → Hid (RD6 wv v5 M) → Hid (Wr wv v6 ee A B) → wpAnyH Try.prog .any O Q9 SS 6 #[true, true, true, true, true, true, true, false, false, false, false, false, false] ((((AA.put (some 27) v1).put (some 29) v3).put (some 31) v5).put (some 32) v6) wv := by
        intro wv v1 v3 v5 v6 hX p1 p3 p5 p6
        have hO1 := hO.out
        have hQ1 := hQ.out
        have hA1 := hA.out
        subst hO1
        subst hQ1
        subst hA1
        have XE := hX.out
        have hHeld := KP.out _ XE
        have hS1 := hSS.out
        subst hS1
        try simp only [Act.put, List.getElem_toArray, List.getElem_cons_succ, List.getElem_cons_zero, List.setIfInBounds_toArray, List.set_cons_zero, List.set_cons_succ]
        refine wpAnyH_take (i := 7) (v := ?_) rfl (by kernel_rfl) (by kernel_rfl) (by kernel_rfl) (fun _ _ _ h => h) (Or.inl ⟨by rfl, fun w0 hSw => ?_⟩) hHeld ?_
        rotate_left
        · (try dsimp only at hSw)
          go_simp
          try with_reducible rfl
        simp only [Act.put, List.getElem_toArray, List.getElem_cons_succ, List.getElem_cons_zero, List.setIfInBounds_toArray, List.set_cons_zero, List.set_cons_succ]
        exact wpAnyH_at (L5_ wv _ _ _ _ _ hX.out p1.out p3.out p5.out p6.out (p6.out)) (by kernel_rfl) (by kernel_rfl) (by kernel_rfl)
      have L2_10 : ∀ (wv : World) (v1 v3 : Value) (B10 : Nat), Hid (Ext w3 wv) → Hid (RQ wv v1 L) → Hid (OwnQ 163 0 wv v3 q) → Hid (Rt wv B10 6 34) → Hid (w3.heap.size ≤ B10) → wpAnyH Try.prog .any O Q9 SS 7 #[true, true, true, true, true, false, false, false, false, false, true, false, false] (((AA.put (some 27) v1).put (some 29) v3).put (some 11) (.pointer (some ⟨B10, 0, none⟩))) wv := by
        intro wv v1 v3 B10 hX p1 p3 r10 s10
        have hO1 := hO.out
        have hQ1 := hQ.out
        have hA1 := hA.out
        subst hO1
        subst hQ1
        subst hA1
        have XE := hX.out
        try simp only [Act.put, List.getElem_toArray, List.getElem_cons_succ, List.getElem_cons_zero, List.setIfInBounds_toArray, List.set_cons_zero, List.set_cons_succ]
        refine wpAnyH_ready (rs := [5]) (by kernel_rfl) (by simp) ?_
        refine AllReadyH.cons (o := _) rfl (fun K hK => ?_) AllReadyH.nil
        go_simp
        go_at_call 16
        refine (HLI.out _ _ (HV2.out.ext RdNDp.ext (Ext.trans b03 XE))).mono ?_
        rintro e wn ⟨vn, rfl, bn, on⟩
        go_wp2_with fail
        refine hK.out _ _ (KP.out _ (Ext.trans XE bn)) (fun _ => ?_)
        clear hK K
        try simp only [Act.put, List.getElem_toArray, List.getElem_cons_succ, List.getElem_cons_zero, List.setIfInBounds_toArray, List.set_cons_zero, List.set_cons_succ]
        exact wpAnyH_at (L3_10 wn v1 v3 vn B10 (Ext.trans XE bn) (p1.out.ext bn) (p3.out.ext bn) (on) (r10.out.ext bn) s10) (by kernel_rfl) (by kernel_rfl) (by kernel_rfl)
      have L3_ : ∀ (wv : World) (v1 v3 v5 : Value), Hid (Ext w3 wv) → Hid (RQ wv v1 L) → Hid (OwnQ 163 0 wv v3 q) → Hid (RD6 wv v5 M) → wpAnyH Try.prog .any O Q9 SS 7 #[true, true, true, true, true, true, false, false, false, false, false, false, false] (((AA.put (some 27) v1).put (some 29) v3).put (some 31) v5) wv := by
        intro wv v1 v3 v5 hX p1 p3 p5
        have hO1 := hO.out
        have hQ1 := hQ.out
        have hA1 := hA.out
        subst hO1
        subst hQ1
        subst hA1
        have XE := hX.out
        try simp only [Act.put, List.getElem_toArray, List.getElem_cons_succ, List.getElem_cons_zero, List.setIfInBounds_toArray, List.set_cons_zero, List.set_cons_succ]
        refine wpAnyH_ready (rs := [6, 10]) (by kernel_rfl) (by simp) ?_
        refine AllReadyH.cons (o := _) rfl (fun K hK => ?_) (AllReadyH.cons (o := _) rfl (fun K hK => ?_) AllReadyH.nil)
        · skip
          go_simp
          go_at_call 17
          refine (HWG.out _ _ _ _ p1.out p3.out p5.out).mono ?_
          rintro e wn ⟨vn, rfl, bn, on⟩
          go_wp2_with fail
          refine hK.out _ _ (KP.out _ (Ext.trans XE bn)) (fun _ => ?_)
          clear hK K
          try simp only [Act.put, List.getElem_toArray, List.getElem_cons_succ, List.getElem_cons_zero, List.setIfInBounds_toArray, List.set_cons_zero, List.set_cons_succ]
          exact wpAnyH_at (L4_ wn v1 v3 v5 vn (Ext.trans XE bn) (p1.out.ext bn) (p3.out.ext bn) (p5.out.ext bn) (on)) (by kernel_rfl) (by kernel_rfl) (by kernel_rfl)
        · skip
          go_simp
          refine hK.out _ _ (KP.out _ (Ext.trans XE (Ext.alloc _ _))) (fun _ => ?_)
          clear hK K
          try simp only [Act.put, List.getElem_toArray, List.getElem_cons_succ, List.getElem_cons_zero, List.setIfInBounds_toArray, List.set_cons_zero, List.set_cons_succ]
          exact wpAnyH_at (L3_10 _ v1 v3 v5 wv.heap.size (Ext.trans XE (Ext.alloc wv (.cells [.bool false, .slice none 0 0, .slice none 0 0, .bool false, .slice none 0 0, .slice none 0 0].toArray 34))) (p1.out.ext (Ext.alloc wv (.cells [.bool false, .slice none 0 0, .slice none 0 0, .bool false, .slice none 0 0, .slice none 0 0].toArray 34))) (p3.out.ext (Ext.alloc wv (.cells [.bool false, .slice none 0 0, .slice none 0 0, .bool false, .slice none 0 0, .slice none 0 0].toArray 34))) (p5.out.ext (Ext.alloc wv (.cells [.bool false, .slice none 0 0, .slice none 0 0, .bool false, .slice none 0 0, .slice none 0 0].toArray 34))) (Rt.new wv [.bool false, .slice none 0 0, .slice none 0 0, .bool false, .slice none 0 0, .slice none 0 0] 34) (Below.size XE)) (by kernel_rfl) (by kernel_rfl) (by kernel_rfl)
      have L1_10 : ∀ (wv : World) (v1 : Value) (B10 : Nat), Hid (Ext w3 wv) → Hid (RQ wv v1 L) → Hid (Rt wv B10 6 34) → Hid (w3.heap.size ≤ B10) → wpAnyH Try.prog .any O Q9 SS 8 #[true, true, true, false, true, false, false, false, false, false, true, false, false] ((AA.put (some 27) v1).put (some 11) (.pointer (some ⟨B10, 0, none⟩))) wv := by
        intro wv v1 B10 hX p1 r10 s10
        have hO1 := hO.out
        have hQ1 := hQ.out
        have hA1 := hA.out
        subst hO1
        subst hQ1
        subst hA1
        have XE := hX.out
        try simp only [Act.put, List.getElem_toArray, List.getElem_cons_succ, List.getElem_cons_zero, List.setIfInBounds_toArray, List.set_cons_zero, List.set_cons_succ]
        refine wpAnyH_ready (rs := [3]) (by kernel_rfl) (by simp) ?_
        refine AllReadyH.cons (o := _) rfl (fun K hK => ?_) AllReadyH.nil
        go_simp
        go_at_call 18
        refine (HOF.out _ _ (HV1.out.ext (Ext.trans b03 XE))).mono ?_
        rintro e wn ⟨vn, rfl, bn, on⟩
        go_wp2_with fail
        refine hK.out _ _ (KP.out _ (Ext.trans XE bn)) (fun _ => ?_)
        clear hK K
        try simp only [Act.put, List.getElem_toArray, List.getElem_cons_succ, List.getElem_cons_zero, List.setIfInBounds_toArray, List.set_cons_zero, List.set_cons_succ]
        exact wpAnyH_at (L2_10 wn v1 vn B10 (Ext.trans XE bn) (p1.out.ext bn) (on) (r10.out.ext bn) s10) (by kernel_rfl) (by kernel_rfl) (by kernel_rfl)
      have L2_ : ∀ (wv : World) (v1 v3 : Value), Hid (Ext w3 wv) → Hid (RQ wv v1 L) → Hid (OwnQ 163 0 wv v3 q) → wpAnyH Try.prog .any O Q9 SS 8 #[true, true, true, true, true, false, false, false, false, false, false, false, false] ((AA.put (some 27) v1).put (some 29) v3) wv := by
        intro wv v1 v3 hX p1 p3
        have hO1 := hO.out
        have hQ1 := hQ.out
        have hA1 := hA.out
        subst hO1
        subst hQ1
        subst hA1
        have XE := hX.out
        try simp only [Act.put, List.getElem_toArray, List.getElem_cons_succ, List.getElem_cons_zero, List.setIfInBounds_toArray, List.set_cons_zero, List.set_cons_succ]
        refine wpAnyH_ready (rs := [5, 10]) (by kernel_rfl) (by simp) ?_
        refine AllReadyH.cons (o := _) rfl (fun K hK => ?_) (AllReadyH.cons (o := _) rfl (fun K hK => ?_) AllReadyH.nil)
        · skip
          go_simp
          go_at_call 16
          refine (HLI.out _ _ (HV2.out.ext RdNDp.ext (Ext.trans b03 XE))).mono ?_
          rintro e wn ⟨vn, rfl, bn, on⟩
          go_wp2_with fail
          refine hK.out _ _ (KP.out _ (Ext.trans XE bn)) (fun _ => ?_)
          clear hK K
          try simp only [Act.put, List.getElem_toArray, List.getElem_cons_succ, List.getElem_cons_zero, List.setIfInBounds_toArray, List.set_cons_zero, List.set_cons_succ]
          exact wpAnyH_at (L3_ wn v1 v3 vn (Ext.trans XE bn) (p1.out.ext bn) (p3.out.ext bn) (on)) (by kernel_rfl) (by kernel_rfl) (by kernel_rfl)
        · skip
          go_simp
          refine hK.out _ _ (KP.out _ (Ext.trans XE (Ext.alloc _ _))) (fun _ => ?_)
          clear hK K
          try simp only [Act.put, List.getElem_toArray, List.getElem_cons_succ, List.getElem_cons_zero, List.setIfInBounds_toArray, List.set_cons_zero, List.set_cons_succ]
          exact wpAnyH_at (L2_10 _ v1 v3 wv.heap.size (Ext.trans XE (Ext.alloc wv (.cells [.bool false, .slice none 0 0, .slice none 0 0, .bool false, .slice none 0 0, .slice none 0 0].toArray 34))) (p1.out.ext (Ext.alloc wv (.cells [.bool false, .slice none 0 0, .slice none 0 0, .bool false, .slice none 0 0, .slice none 0 0].toArray 34))) (p3.out.ext (Ext.alloc wv (.cells [.bool false, .slice none 0 0, .slice none 0 0, .bool false, .slice none 0 0, .slice none 0 0].toArray 34))) (Rt.new wv [.bool false, .slice none 0 0, .slice none 0 0, .bool false, .slice none 0 0, .slice none 0 0] 34) (Below.size XE)) (by kernel_rfl) (by kernel_rfl) (by kernel_rfl)
      have L0_10 : ∀ (wv : World) (B10 : Nat), Hid (Ext w3 wv) → Hid (Rt wv B10 6 34) → Hid (w3.heap.size ≤ B10) → wpAnyH Try.prog .any O Q9 SS 9 #[true, false, true, false, true, false, false, false, false, false, true, false, false] (AA.put (some 11) (.pointer (some ⟨B10, 0, none⟩))) wv := by
        intro wv B10 hX r10 s10
        have hO1 := hO.out
        have hQ1 := hQ.out
        have hA1 := hA.out
        subst hO1
        subst hQ1
        subst hA1
        have XE := hX.out
        try simp only [Act.put, List.getElem_toArray, List.getElem_cons_succ, List.getElem_cons_zero, List.setIfInBounds_toArray, List.set_cons_zero, List.set_cons_succ]
        refine wpAnyH_ready (rs := [1]) (by kernel_rfl) (by simp) ?_
        refine AllReadyH.cons (o := _) rfl (fun K hK => ?_) AllReadyH.nil
        go_simp
        go_at_call 15
        refine (HR0.out _ _ (HV0.out.ext RdNp.ext (Ext.trans b03 XE))).mono ?_
        rintro e wn ⟨vn, rfl, bn, on⟩
        go_wp2_with fail
        refine hK.out _ _ (KP.out _ (Ext.trans XE bn)) (fun _ => ?_)
        clear hK K
        try simp only [Act.put, List.getElem_toArray, List.getElem_cons_succ, List.getElem_cons_zero, List.setIfInBounds_toArray, List.set_cons_zero, List.set_cons_succ]
        exact wpAnyH_at (L1_10 wn vn B10 (Ext.trans XE bn) (on) (r10.out.ext bn) s10) (by kernel_rfl) (by kernel_rfl) (by kernel_rfl)
      have L1_ : ∀ (wv : World) (v1 : Value), Hid (Ext w3 wv) → Hid (RQ wv v1 L) → wpAnyH Try.prog .any O Q9 SS 9 #[true, true, true, false, true, false, false, false, false, false, false, false, false] (AA.put (some 27) v1) wv := by
        intro wv v1 hX p1
        have hO1 := hO.out
        have hQ1 := hQ.out
        have hA1 := hA.out
        subst hO1
        subst hQ1
        subst hA1
        have XE := hX.out
        try simp only [Act.put, List.getElem_toArray, List.getElem_cons_succ, List.getElem_cons_zero, List.setIfInBounds_toArray, List.set_cons_zero, List.set_cons_succ]
        refine wpAnyH_ready (rs := [3, 10]) (by kernel_rfl) (by simp) ?_
        refine AllReadyH.cons (o := _) rfl (fun K hK => ?_) (AllReadyH.cons (o := _) rfl (fun K hK => ?_) AllReadyH.nil)
        · skip
          go_simp
          go_at_call 18
          refine (HOF.out _ _ (HV1.out.ext (Ext.trans b03 XE))).mono ?_
          rintro e wn ⟨vn, rfl, bn, on⟩
          go_wp2_with fail
          refine hK.out _ _ (KP.out _ (Ext.trans XE bn)) (fun _ => ?_)
          clear hK K
          try simp only [Act.put, List.getElem_toArray, List.getElem_cons_succ, List.getElem_cons_zero, List.setIfInBounds_toArray, List.set_cons_zero, List.set_cons_succ]
          exact wpAnyH_at (L2_ wn v1 vn (Ext.trans XE bn) (p1.out.ext bn) (on)) (by kernel_rfl) (by kernel_rfl) (by kernel_rfl)
        · skip
          go_simp
          refine hK.out _ _ (KP.out _ (Ext.trans XE (Ext.alloc _ _))) (fun _ => ?_)
          clear hK K
          try simp only [Act.put, List.getElem_toArray, List.getElem_cons_succ, List.getElem_cons_zero, List.setIfInBounds_toArray, List.set_cons_zero, List.set_cons_succ]
          exact wpAnyH_at (L1_10 _ v1 wv.heap.size (Ext.trans XE (Ext.alloc wv (.cells [.bool false, .slice none 0 0, .slice none 0 0, .bool false, .slice none 0 0, .slice none 0 0].toArray 34))) (p1.out.ext (Ext.alloc wv (.cells [.bool false, .slice none 0 0, .slice none 0 0, .bool false, .slice none 0 0, .slice none 0 0].toArray 34))) (Rt.new wv [.bool false, .slice none 0 0, .slice none 0 0, .bool false, .slice none 0 0, .slice none 0 0] 34) (Below.size XE)) (by kernel_rfl) (by kernel_rfl) (by kernel_rfl)
      have L0_ : ∀ (wv : World), Hid (Ext w3 wv) → wpAnyH Try.prog .any O Q9 SS 10 #[true, false, true, false, true, false, false, false, false, false, false, false, false] AA wv := by
        intro wv hX
        have hO1 := hO.out
        have hQ1 := hQ.out
        have hA1 := hA.out
        subst hO1
        subst hQ1
        subst hA1
        have XE := hX.out
        try simp only [Act.put, List.getElem_toArray, List.getElem_cons_succ, List.getElem_cons_zero, List.setIfInBounds_toArray, List.set_cons_zero, List.set_cons_succ]
        refine wpAnyH_ready (rs := [1, 10]) (by kernel_rfl) (by simp) ?_
        refine AllReadyH.cons (o := _) rfl (fun K hK => ?_) (AllReadyH.cons (o := _) rfl (fun K hK => ?_) AllReadyH.nil)
        · skip
          go_simp
          go_at_call 15
          refine (HR0.out _ _ (HV0.out.ext RdNp.ext (Ext.trans b03 XE))).mono ?_
          rintro e wn ⟨vn, rfl, bn, on⟩
          go_wp2_with fail
          refine hK.out _ _ (KP.out _ (Ext.trans XE bn)) (fun _ => ?_)
          clear hK K
          try simp only [Act.put, List.getElem_toArray, List.getElem_cons_succ, List.getElem_cons_zero, List.setIfInBounds_toArray, List.set_cons_zero, List.set_cons_succ]
          exact wpAnyH_at (L1_ wn vn (Ext.trans XE bn) (on)) (by kernel_rfl) (by kernel_rfl) (by kernel_rfl)
        · skip
          go_simp
          refine hK.out _ _ (KP.out _ (Ext.trans XE (Ext.alloc _ _))) (fun _ => ?_)
          clear hK K
          try simp only [Act.put, List.getElem_toArray, List.getElem_cons_succ, List.getElem_cons_zero, List.setIfInBounds_toArray, List.set_cons_zero, List.set_cons_succ]
          exact wpAnyH_at (L0_10 _ wv.heap.size (Ext.trans XE (Ext.alloc wv (.cells [.bool false, .slice none 0 0, .slice none 0 0, .bool false, .slice none 0 0, .slice none 0 0].toArray 34))) (Rt.new wv [.bool false, .slice none 0 0, .slice none 0 0, .bool false, .slice none 0 0, .slice none 0 0] 34) (Below.size XE)) (by kernel_rfl) (by kernel_rfl) (by kernel_rfl)
      have hO1 := hO.out
      have hQ1 := hQ.out
      have hA1 := hA.out
      subst hO1
      subst hQ1
      subst hA1
      have hS1 := hSS.out
      subst hS1
      exact wpAnyH_at (L0_ w3.drew (drew_ext w3)) (by kernel_rfl) (by kernel_rfl) (by kernel_rfl)
  case rest =>
    focus
      obtain ⟨E, x0, x1, x2, x3, x4, x5, rfl, rfl, b4, C4, O4⟩ := hcut
      generalize wc = w4 at *
      have RL4 := Lib.hid (RL.out.ext (Ext.trans b3 b4))
      have RM4 := Lib.hid (RM.out.ext b4)
      have b04 := Ext.trans b03 b4
      have D4 := Lib.hid (D1.out.ext b4)
      clear RL RM D1 C1 SZ1 SZ3 HR0 HWG
      rcases HC.out with ⟨h1, rfl, rfl, rfl⟩ | ⟨h1, heq, rfl, hwf⟩
      · obtain ⟨k0, k1, k2, k3, k4, k5⟩ := C4.out.c6
        go_upto_region 4 with (fail)
        clear k0 k1 k2 k3 k4 k5
        go_wp2_with fail
        refine awake17.mono ?_
        rintro e w5 ⟨_, rfl, b5, rfl⟩
        obtain ⟨k0, k1, k2, k3, k4, k5⟩ := (C4.out.ext b5).c6
        go_wp2_with fail
        refine (rsign_any (RdD.fst3 (O4.out.rd.ext b5))).mono ?_
        rintro e w6 ⟨_, rfl, b6, rfl⟩
        clear k0 k1 k2 k3 k4 k5
        obtain ⟨k0, k1, k2, k3, k4, k5⟩ := (C4.out.ext (Ext.trans b5 b6)).c6
        go_wp2_with fail
        refine (rsign_any (RdD.snd3 (O4.out.rd.ext (Ext.trans b5 b6)))).mono ?_
        rintro e w7 ⟨_, rfl, b7, rfl⟩
        go_wp2_with fail
        exact hR.out _ _ (Gives.mk (Ext.trans b04 (Ext.trans b5 (Ext.trans b6 b7))) rfl)
      · have HEQ := Lib.hid heq
        have HWF := Lib.hid hwf
        clear heq hwf HC
        go_upto_region 5 with (fail)
        clear h1
        have SA : Hid (Sz 1000 A ∧ Sz 1000 B) := by
          have h1 := wfold_sz (L.zip M) (q, q) 8 (fun z hz => ⟨SL.out z.1 (List.of_mem_zip hz).1, SM.out z.2 (List.of_mem_zip hz).2⟩) ⟨SQ.out, SQ.out⟩
          have h2 : (L.zip M).length ≤ 34 := by rw [List.length_zip]; have := NL.out; omega
          rw [HWF.out] at h1
          exact ⟨h1.1.le (by omega), h1.2.le (by omega)⟩
        have HTD : Hid (∀ w v, RdRow 6 RdDp w v [(A, B)] → Calls Try.prog 22 #[v] w (Gives w fun v' w' => RdRow 6 RdEp w' v' [(A, B)])) := fun w v h => (told17_any h (by intro p hp; simp at hp; subst hp; exact ⟨SA.out.1.le (by decide), SA.out.2.le (by decide)⟩) (by simp)).mono fun _ _ ⟨v, e, b, o⟩ => ⟨v, e, b, RdRow.mono o.rd fun _ _ h => OwnE.rd h⟩
        have HTM : Hid (∀ w v, RD6 w v M → Calls Try.prog 22 #[v] w (Gives w fun v' w' => RdRow 6 RdEp w' v' M)) := fun w v h => (told17_any h.rd (fun p hp => ⟨(SM.out p hp).1.le (by decide), (SM.out p hp).2.le (by decide)⟩) (by have := NM.out; omega)).mono fun _ _ ⟨v, e, b, o⟩ => ⟨v, e, b, RdRow.mono o.rd fun _ _ h => OwnE.rd h⟩
        have HNU : Hid (∀ w v, RQ w v L → Calls Try.prog 24 #[v] w (Gives w fun v' w' => RdRow 3 RdP w' v' L)) := fun w v h => (nums_any h.rd (fun p hp => (SL.out p hp).le (by decide)) (by have := NL.out; omega)).mono fun _ _ ⟨v, e, b, o⟩ => ⟨v, e, b, RdRow.mono o.rd fun _ _ h => OwnP.rd h⟩
        have HTQ : Hid (∀ w v, RdQ w v q → Calls Try.prog 25 #[v] w (Gives w fun v' w' => RdP w' v' q)) := fun w v h => (told_any h (SQ.out.le (by decide))).mono fun _ _ ⟨v, e, b, o⟩ => ⟨v, e, b, o.rd⟩
        have HWE : Hid (∀ w va vb vc, RdRow 3 RdP w va L → RdP w vb q → RdRow 6 RdEp w vc M → Calls Try.prog 23 #[va, vb, vc] w (Gives w fun v' w' => RdE w' v' A B)) := fun w va vb vc h1 h2 h3 => by
          have h := r17weigh_any h1 h3 HEQ.out h2 SL.out SM.out SQ.out (by decide) (by have := NL.out; omega)
          rw [HWF.out] at h
          exact h
        have HSM : Hid (∀ w va vb, RdRow 6 RdEp w va [(A, B)] → RdRow 6 RdEp w vb [(A, B)] → Calls Try.prog 21 #[va, vb] w (Gives w fun v' _ => v' = .bool true)) := fun w va vb h1 h2 => same17_yes h1 h2 (by intro p hp; simp at hp; subst hp; exact ⟨SA.out.1.bits.le (by decide), SA.out.2.bits.le (by decide)⟩)
        have b5 := drew_ext w4
        have XE := b5
        refine wp_region_noPanic ?_
        refine wp_region_held_drew (S := fun w' => (w'.cell? ⟨w.heap.size, 0, none⟩ = some (.bool s1) ∧ w'.cell? ⟨w.heap.size, 1, none⟩ = some (t1) ∧ w'.cell? ⟨w.heap.size, 2, none⟩ = some (t2)) ∧ (w'.cell? ⟨E, 0, none⟩ = some (x0) ∧ w'.cell? ⟨E, 1, none⟩ = some (x1) ∧ w'.cell? ⟨E, 2, none⟩ = some (x2) ∧ w'.cell? ⟨E, 3, none⟩ = some (x3) ∧ w'.cell? ⟨E, 4, none⟩ = some (x4) ∧ w'.cell? ⟨E, 5, none⟩ = some (x5))) (by kernel_rfl) (⟨(D4.out.ext XE).c3, (C4.out.ext XE).c6⟩) (fun hHeld => ?_)
        refine wpAnyH_ready (rs := [0]) (by kernel_rfl) (by simp) ?_
        refine AllReadyH.cons (o := _) rfl (fun K hK => ?_) AllReadyH.nil
        go_simp
        go_at_call 19; refine (awake17).mono ?_; rintro e w6 ⟨_, rfl, b6, rfl⟩; (first | have XE := Ext.trans XE b6 | have XE := Ext.trans (Ext.trans XE (Ext.alloc _ _)) b6)
        go_wp2_with fail
        refine hK.out _ _ (⟨(D4.out.ext XE).c3, (C4.out.ext XE).c6⟩) (fun hHeld => ?_)
        clear hK K
        try simp only [Act.put, List.getElem_toArray, List.getElem_cons_succ, List.getElem_cons_zero, List.setIfInBounds_toArray, List.set_cons_zero, List.set_cons_succ]
        refine wpAnyH_take (i := 1) (v := ?_) rfl (by kernel_rfl) (by kernel_rfl) (by kernel_rfl) (fun _ _ _ h => h) (Or.inl ⟨by rfl, fun w0 hSw => ?_⟩) hHeld ?_
        rotate_left
        · (try dsimp only at hSw)
          go_simp
          try with_reducible rfl
        simp only [Act.put, List.getElem_toArray, List.getElem_cons_succ, List.getElem_cons_zero, List.setIfInBounds_toArray, List.set_cons_zero, List.set_cons_succ]
        refine wpAnyH_take (i := 2) (v := ?_) rfl (by kernel_rfl) (by kernel_rfl) (by kernel_rfl) (fun _ _ _ h => h) (Or.inl ⟨by rfl, fun w0 hSw => ?_⟩) hHeld ?_
        rotate_left
        · (try dsimp only at hSw)
          go_simp
          try with_reducible rfl
        simp only [Act.put, List.getElem_toArray, List.getElem_cons_succ, List.getElem_cons_zero, List.setIfInBounds_toArray, List.set_cons_zero, List.set_cons_succ]
        refine wpAnyH_take (i := 3) (v := ?_) rfl (by kernel_rfl) (by kernel_rfl) (by kernel_rfl) (fun _ _ _ h => h) (Or.inl ⟨by rfl, fun w0 hSw => ?_⟩) hHeld ?_
        rotate_left
        · (try dsimp only at hSw)
          go_simp
          try with_reducible rfl
        simp only [Act.put, List.getElem_toArray, List.getElem_cons_succ, List.getElem_cons_zero, List.setIfInBounds_toArray, List.set_cons_zero, List.set_cons_succ]
        refine wpAnyH_take (i := 4) (v := ?_) rfl (by kernel_rfl) (by kernel_rfl) (by kernel_rfl) (fun _ _ _ h => h) (Or.inl ⟨by rfl, fun w0 hSw => ?_⟩) hHeld ?_
        rotate_left
        · (try dsimp only at hSw)
          go_simp
          try with_reducible rfl
        simp only [Act.put, List.getElem_toArray, List.getElem_cons_succ, List.getElem_cons_zero, List.setIfInBounds_toArray, List.set_cons_zero, List.set_cons_succ]
        refine wpAnyH_take (i := 5) (v := ?_) rfl (by kernel_rfl) (by kernel_rfl) (by kernel_rfl) (fun _ _ _ h => h) (Or.inl ⟨by rfl, fun w0 hSw => ?_⟩) hHeld ?_
        rotate_left
        · (try dsimp only at hSw)
          go_simp
          try with_reducible rfl
        simp only [Act.put, List.getElem_toArray, List.getElem_cons_succ, List.getElem_cons_zero, List.setIfInBounds_toArray, List.set_cons_zero, List.set_cons_succ]
        refine wpAnyH_take (i := 6) (v := ?_) rfl (by kernel_rfl) (by kernel_rfl) (by kernel_rfl) (fun _ _ _ h => h) (Or.inl ⟨by rfl, fun w0 hSw => ?_⟩) hHeld ?_
        rotate_left
        · (try dsimp only at hSw)
          go_simp
          try with_reducible rfl
        simp only [Act.put, List.getElem_toArray, List.getElem_cons_succ, List.getElem_cons_zero, List.setIfInBounds_toArray, List.set_cons_zero, List.set_cons_succ]
        refine wpAnyH_take (i := 7) (v := ?_) rfl (by kernel_rfl) (by kernel_rfl) (by kernel_rfl) (fun _ _ _ h => h) (Or.inl ⟨by rfl, fun w0 hSw => ?_⟩) hHeld ?_
        rotate_left
        · (try dsimp only at hSw)
          go_simp
          try with_reducible rfl
        simp only [Act.put, List.getElem_toArray, List.getElem_cons_succ, List.getElem_cons_zero, List.setIfInBounds_toArray, List.set_cons_zero, List.set_cons_succ]
        refine wpAnyH_take (i := 10) (v := ?_) rfl (by kernel_rfl) (by kernel_rfl) (by kernel_rfl) (fun _ _ _ h => h) (Or.inl ⟨by rfl, fun w0 hSw => ?_⟩) hHeld ?_
        rotate_left
        · (try dsimp only at hSw)
          go_simp
          try with_reducible rfl
        simp only [Act.put, List.getElem_toArray, List.getElem_cons_succ, List.getElem_cons_zero, List.setIfInBounds_toArray, List.set_cons_zero, List.set_cons_succ]
        refine wpAnyH_take (i := 12) (v := ?_) rfl (by kernel_rfl) (by kernel_rfl) (by kernel_rfl) (fun _ _ _ h => h) (Or.inl ⟨by rfl, fun w0 hSw => ?_⟩) hHeld ?_
        rotate_left
        · (try dsimp only at hSw)
          go_simp
          try with_reducible rfl
        simp only [Act.put, List.getElem_toArray, List.getElem_cons_succ, List.getElem_cons_zero, List.setIfInBounds_toArray, List.set_cons_zero, List.set_cons_succ]
        refine wpAnyH_take (i := 15) (v := ?_) rfl (by kernel_rfl) (by kernel_rfl) (by kernel_rfl) (fun _ _ _ h => h) (Or.inl ⟨by rfl, fun w0 hSw => ?_⟩) hHeld ?_
        rotate_left
        · (try dsimp only at hSw)
          go_simp
          try with_reducible rfl
        simp only [Act.put, List.getElem_toArray, List.getElem_cons_succ, List.getElem_cons_zero, List.setIfInBounds_toArray, List.set_cons_zero, List.set_cons_succ]
        refine wpAnyH_ready (rs := [8]) (by kernel_rfl) (by simp) ?_
        refine AllReadyH.cons (o := _) rfl (fun K hK => ?_) AllReadyH.nil
        go_simp
        refine hK.out _ _ (⟨(D4.out.ext (Ext.trans XE (Ext.alloc _ _))).c3, (C4.out.ext (Ext.trans XE (Ext.alloc _ _))).c6⟩) (fun hHeld => ?_)
        clear hK K
        try simp only [Act.put, List.getElem_toArray, List.getElem_cons_succ, List.getElem_cons_zero, List.setIfInBounds_toArray, List.set_cons_zero, List.set_cons_succ]
        refine wpAnyH_ready (rs := [9]) (by kernel_rfl) (by simp) ?_
        refine AllReadyH.cons (o := _) rfl (fun K hK => ?_) AllReadyH.nil
        go_simp
        go_at_call 22; refine (HTD.out _ _ (RdRow.lit w6 [[x0, x1, x2, x3, x4, x5]] 34 (Pw.one rfl (RdDp.ext (p := (A, B)) O4.out.rd (Ext.trans b5 b6))) RdDp.ext (by unfold maxLen; simp))).mono ?_; rintro e w7 ⟨v7, rfl, b7, o7⟩; have O7 := Lib.hid o7; clear o7; (first | have XE := Ext.trans XE b7 | have XE := Ext.trans (Ext.trans XE (Ext.alloc _ _)) b7)
        go_wp2_with fail
        refine hK.out _ _ (⟨(D4.out.ext XE).c3, (C4.out.ext XE).c6⟩) (fun hHeld => ?_)
        clear hK K
        try simp only [Act.put, List.getElem_toArray, List.getElem_cons_succ, List.getElem_cons_zero, List.setIfInBounds_toArray, List.set_cons_zero, List.set_cons_succ]
        refine wpAnyH_ready (rs := [11]) (by kernel_rfl) (by simp) ?_
        refine AllReadyH.cons (o := _) rfl (fun K hK => ?_) AllReadyH.nil
        go_simp
        go_at_call 24; refine (HNU.out _ _ (RL4.out.ext (Ext.trans (Ext.trans b5 b6) (Ext.trans (Ext.alloc _ _) b7)))).mono ?_; rintro e w8 ⟨v8, rfl, b8, o8⟩; have O8 := Lib.hid o8; clear o8; (first | have XE := Ext.trans XE b8 | have XE := Ext.trans (Ext.trans XE (Ext.alloc _ _)) b8)
        go_wp2_with fail
        refine hK.out _ _ (⟨(D4.out.ext XE).c3, (C4.out.ext XE).c6⟩) (fun hHeld => ?_)
        clear hK K
        try simp only [Act.put, List.getElem_toArray, List.getElem_cons_succ, List.getElem_cons_zero, List.setIfInBounds_toArray, List.set_cons_zero, List.set_cons_succ]
        refine wpAnyH_ready (rs := [13]) (by kernel_rfl) (by simp) ?_
        refine AllReadyH.cons (o := _) rfl (fun K hK => ?_) AllReadyH.nil
        go_simp
        go_at_call 18; refine (HOF.out _ _ (HV1.out.ext (Ext.trans b04 (Ext.trans (Ext.trans b5 b6) (Ext.trans (Ext.alloc _ _) (Ext.trans b7 b8)))))).mono ?_; rintro e w9 ⟨v9, rfl, b9, o9⟩; have O9 := Lib.hid o9; clear o9; (first | have XE := Ext.trans XE b9 | have XE := Ext.trans (Ext.trans XE (Ext.alloc _ _)) b9)
        go_wp2_with fail
        refine hK.out _ _ (⟨(D4.out.ext XE).c3, (C4.out.ext XE).c6⟩) (fun hHeld => ?_)
        clear hK K
        try simp only [Act.put, List.getElem_toArray, List.getElem_cons_succ, List.getElem_cons_zero, List.setIfInBounds_toArray, List.set_cons_zero, List.set_cons_succ]
        refine wpAnyH_ready (rs := [14]) (by kernel_rfl) (by simp) ?_
        refine AllReadyH.cons (o := _) rfl (fun K hK => ?_) AllReadyH.nil
        go_simp
        go_at_call 25; refine (HTQ.out _ _ O9.out.rd).mono ?_; rintro e w10 ⟨v10, rfl, b10, o10⟩; have O10 := Lib.hid o10; clear o10; (first | have XE := Ext.trans XE b10 | have XE := Ext.trans (Ext.trans XE (Ext.alloc _ _)) b10)
        go_wp2_with fail
        refine hK.out _ _ (⟨(D4.out.ext XE).c3, (C4.out.ext XE).c6⟩) (fun hHeld => ?_)
        clear hK K
        try simp only [Act.put, List.getElem_toArray, List.getElem_cons_succ, List.getElem_cons_zero, List.setIfInBounds_toArray, List.set_cons_zero, List.set_cons_succ]
        refine wpAnyH_ready (rs := [16]) (by kernel_rfl) (by simp) ?_
        refine AllReadyH.cons (o := _) rfl (fun K hK => ?_) AllReadyH.nil
        go_simp
        go_at_call 22; refine (HTM.out _ _ (RM4.out.ext (Ext.trans (Ext.trans b5 b6) (Ext.trans (Ext.alloc _ _) (Ext.trans b7 (Ext.trans b8 (Ext.trans b9 b10))))))).mono ?_; rintro e w11 ⟨v11, rfl, b11, o11⟩; have O11 := Lib.hid o11; clear o11; (first | have XE := Ext.trans XE b11 | have XE := Ext.trans (Ext.trans XE (Ext.alloc _ _)) b11)
        go_wp2_with fail
        refine hK.out _ _ (⟨(D4.out.ext XE).c3, (C4.out.ext XE).c6⟩) (fun hHeld => ?_)
        clear hK K
        try simp only [Act.put, List.getElem_toArray, List.getElem_cons_succ, List.getElem_cons_zero, List.setIfInBounds_toArray, List.set_cons_zero, List.set_cons_succ]
        refine wpAnyH_ready (rs := [17]) (by kernel_rfl) (by simp) ?_
        refine AllReadyH.cons (o := _) rfl (fun K hK => ?_) AllReadyH.nil
        go_simp
        go_at_call 23; refine (HWE.out _ _ _ _ (O8.out.ext RdP.ext (Ext.trans b9 (Ext.trans b10 b11))) (O10.out.ext b11) O11.out).mono ?_; rintro e w12 ⟨v12, rfl, b12, o12⟩; have O12 := Lib.hid o12; clear o12; (first | have XE := Ext.trans XE b12 | have XE := Ext.trans (Ext.trans XE (Ext.alloc _ _)) b12); obtain ⟨_, _, _, _, _, _, _, _, _, _, _, _, _, _, rfl, P12⟩ := RdE.op O12.out
        go_wp2_with fail
        refine hK.out _ _ (⟨(D4.out.ext XE).c3, (C4.out.ext XE).c6⟩) (fun hHeld => ?_)
        clear hK K
        try simp only [Act.put, List.getElem_toArray, List.getElem_cons_succ, List.getElem_cons_zero, List.setIfInBounds_toArray, List.set_cons_zero, List.set_cons_succ]
        refine wpAnyH_ready (rs := [18]) (by kernel_rfl) (by simp) ?_
        refine AllReadyH.cons (o := _) rfl (fun K hK => ?_) AllReadyH.nil
        go_simp
        refine hK.out _ _ (⟨(D4.out.ext (Ext.trans XE (Ext.alloc _ _))).c3, (C4.out.ext (Ext.trans XE (Ext.alloc _ _))).c6⟩) (fun hHeld => ?_)
        clear hK K
        try simp only [Act.put, List.getElem_toArray, List.getElem_cons_succ, List.getElem_cons_zero, List.setIfInBounds_toArray, List.set_cons_zero, List.set_cons_succ]
        refine wpAnyH_ready (rs := [19]) (by kernel_rfl) (by simp) ?_
        refine AllReadyH.cons (o := _) rfl (fun K hK => ?_) AllReadyH.nil
        go_simp
        go_at_call 21; refine (HSM.out _ _ _ (O7.out.ext RdEp.ext (Ext.trans (Ext.trans b8 (Ext.trans b9 (Ext.trans b10 (Ext.trans b11 b12)))) (Ext.alloc _ _))) (RdRow.lit w12 [[_, _, _, _, _, _]] 48 (Pw.one rfl P12.out) RdEp.ext (by unfold maxLen; simp))).mono ?_; rintro e w13 ⟨_, rfl, b13, rfl⟩; (first | have XE := Ext.trans XE b13 | have XE := Ext.trans (Ext.trans XE (Ext.alloc _ _)) b13)
        go_wp2_with fail
        refine hK.out _ _ (⟨(D4.out.ext XE).c3, (C4.out.ext XE).c6⟩) (fun hHeld => ?_)
        clear hK K
        try simp only [Act.put, List.getElem_toArray, List.getElem_cons_succ, List.getElem_cons_zero, List.setIfInBounds_toArray, List.set_cons_zero, List.set_cons_succ]
        refine wpAnyH_take (i := 20) (v := ?_) rfl (by kernel_rfl) (by kernel_rfl) (by kernel_rfl) (fun _ _ _ h => h) (Or.inl ⟨by rfl, fun w0 hSw => ?_⟩) hHeld ?_
        rotate_left
        · (try dsimp only at hSw)
          go_simp
          try with_reducible rfl
        simp only [Act.put, List.getElem_toArray, List.getElem_cons_succ, List.getElem_cons_zero, List.setIfInBounds_toArray, List.set_cons_zero, List.set_cons_succ]
        refine wpAnyH_take (i := 21) (v := ?_) rfl (by kernel_rfl) (by kernel_rfl) (by kernel_rfl) (fun _ _ _ h => h) (Or.inl ⟨by rfl, fun w0 hSw => ?_⟩) hHeld ?_
        rotate_left
        · (try dsimp only at hSw)
          go_simp
          try with_reducible rfl
        simp only [Act.put, List.getElem_toArray, List.getElem_cons_succ, List.getElem_cons_zero, List.setIfInBounds_toArray, List.set_cons_zero, List.set_cons_succ]
        refine wpAnyH_done (by kernel_rfl) ?_ _
        refine NoPanic.normal ?_
        have RL13 := Lib.hid (RL4.out.ext (Ext.trans (Ext.trans b5 b6) (Ext.trans (Ext.alloc _ _) (Ext.trans (Ext.trans b7 (Ext.trans b8 (Ext.trans b9 (Ext.trans b10 (Ext.trans b11 b12))))) (Ext.trans (Ext.alloc _ _) b13)))))
        have RM13 := Lib.hid (RM4.out.ext (Ext.trans (Ext.trans b5 b6) (Ext.trans (Ext.alloc _ _) (Ext.trans (Ext.trans b7 (Ext.trans b8 (Ext.trans b9 (Ext.trans b10 (Ext.trans b11 b12))))) (Ext.trans (Ext.alloc _ _) b13)))))
        have b013 := Ext.trans b04 (Ext.trans (Ext.trans b5 b6) (Ext.trans (Ext.alloc _ _) (Ext.trans (Ext.trans b7 (Ext.trans b8 (Ext.trans b9 (Ext.trans b10 (Ext.trans b11 b12))))) (Ext.trans (Ext.alloc _ _) b13))))
        have D13 := Lib.hid (D4.out.ext (Ext.trans (Ext.trans b5 b6) (Ext.trans (Ext.alloc _ _) (Ext.trans (Ext.trans b7 (Ext.trans b8 (Ext.trans b9 (Ext.trans b10 (Ext.trans b11 b12))))) (Ext.trans (Ext.alloc _ _) b13)))))
        have E13 := Lib.hid (C4.out.ext (Ext.trans (Ext.trans b5 b6) (Ext.trans (Ext.alloc _ _) (Ext.trans (Ext.trans b7 (Ext.trans b8 (Ext.trans b9 (Ext.trans b10 (Ext.trans b11 b12))))) (Ext.trans (Ext.alloc _ _) b13)))))
        have F13 := Lib.hid (O4.out.ext (Ext.trans (Ext.trans b5 b6) (Ext.trans (Ext.alloc _ _) (Ext.trans (Ext.trans b7 (Ext.trans b8 (Ext.trans b9 (Ext.trans b10 (Ext.trans b11 b12))))) (Ext.trans (Ext.alloc _ _) b13)))))
        clear RL4 RM4 D4 C4 O4 P12 O7 O8 O9 O10 O11 O12 HTD HTM HNU HTQ HWE HSM b5 b6 b7 b8 b9 b10 b11 b12 b13 hHeld XE
        go_wp2_with fail
        refine (HR3.out _ _ (HV3.out.ext RdNp.ext b013)).mono ?_
        rintro e w14 ⟨v14, rfl, b14, o14⟩
        have RP := Lib.hid o14
        obtain ⟨a6, c6, rfl, hc6, hm6⟩ := RdRow.shape o14
        clear o14
        have RL := Lib.hid (RL13.out.ext b14)
        have RM := Lib.hid (RM13.out.ext b14)
        have D14 := Lib.hid (D13.out.ext b14)
        have E14 := Lib.hid (E13.out.ext b14)
        have F14 := Lib.hid (F13.out.ext b14)
        have b014 := Ext.trans b013 b14
        clear RL13 RM13 D13 E13 F13 HR3
        go_upto_region 8 with (fail)
        have SZ14 : Hid (w.heap.size < w14.heap.size) := World.block_lt_of_cell? w14 _ D14.out.c3.1
        go_cut [14, 15, 16] (fun s14 s15 s16 wx => ∃ (B1 B2 B3 : Nat), s14 = .pointer (some ⟨B1, 0, none⟩) ∧ s15 = .pointer (some ⟨B2, 0, none⟩) ∧ s16 = .pointer (some ⟨B3, 0, none⟩) ∧ Ext w14 wx ∧ Hid (w14.heap.size ≤ B1 ∧ w14.heap.size ≤ B2 ∧ w14.heap.size ≤ B3 ∧ B1 ≠ B2 ∧ B1 ≠ B3 ∧ B2 ≠ B3) ∧ Hid (Bs wx [(B1, q), (B2, q), (B3, q)]))
        case first =>
          as_aux_lemma =>
            refine wp_region_noPanic ?_
            refine wp_region_held_drew (S := fun w' => w'.cell? ⟨w.heap.size, 0, none⟩ = some (.bool s1) ∧ w'.cell? ⟨w.heap.size, 1, none⟩ = some (t1) ∧ w'.cell? ⟨w.heap.size, 2, none⟩ = some (t2)) (by kernel_rfl) ((D14.out.ext (drew_ext w14)).c3) (fun hHeld => ?_)
            refine wpAnyH_take (i := 0) (v := ?_) rfl (by kernel_rfl) (by kernel_rfl) (by kernel_rfl) (fun _ _ _ h => h) (Or.inl ⟨by rfl, fun w0 hSw => ?_⟩) hHeld ?_
            rotate_left
            · (try dsimp only at hSw)
              go_simp
              try with_reducible rfl
            simp only [Act.put, List.getElem_toArray, List.getElem_cons_succ, List.getElem_cons_zero, List.setIfInBounds_toArray, List.set_cons_zero, List.set_cons_succ]
            refine wpAnyH_take (i := 2) (v := ?_) rfl (by kernel_rfl) (by kernel_rfl) (by kernel_rfl) (fun _ _ _ h => h) (Or.inl ⟨by rfl, fun w0 hSw => ?_⟩) hHeld ?_
            rotate_left
            · (try dsimp only at hSw)
              go_simp
              try with_reducible rfl
            simp only [Act.put, List.getElem_toArray, List.getElem_cons_succ, List.getElem_cons_zero, List.setIfInBounds_toArray, List.set_cons_zero, List.set_cons_succ]
            refine wpAnyH_take (i := 4) (v := ?_) rfl (by kernel_rfl) (by kernel_rfl) (by kernel_rfl) (fun _ _ _ h => h) (Or.inl ⟨by rfl, fun w0 hSw => ?_⟩) hHeld ?_
            rotate_left
            · (try dsimp only at hSw)
              go_simp
              try with_reducible rfl
            simp only [Act.put, List.getElem_toArray, List.getElem_cons_succ, List.getElem_cons_zero, List.setIfInBounds_toArray, List.set_cons_zero, List.set_cons_succ]
            refine anyH_cap fun O Q9 AA hO hQ hA => ?_
            obtain ⟨SS, hSS⟩ : ∃ SS : World → Prop, Hid (SS = fun w' => w'.cell? ⟨w.heap.size, 0, none⟩ = some (.bool s1) ∧ w'.cell? ⟨w.heap.size, 1, none⟩ = some (t1) ∧ w'.cell? ⟨w.heap.size, 2, none⟩ = some (t2)) := ⟨_, rfl⟩
            have KP : Hid (∀ wv, Ext w14 wv → SS wv) := fun wv XE => by rw [hSS.out]; exact (D14.out.ext XE).c3
            have L3_6_7_8 : ∀ (wv : World) (v1 v3 v5 : Value) (B6 B7 B8 : Nat), Hid (Ext w14 wv) → Hid (OwnQ 163 0 wv v1 q) → Hid (OwnQ 163 0 wv v3 q) → Hid (OwnQ 163 0 wv v5 q) → Hid (Rt wv B6 3 32) → Hid (w14.heap.size ≤ B6) → Hid (Rt wv B7 3 32) → Hid (w14.heap.size ≤ B7) → Hid (Rt wv B8 3 32) → Hid (w14.heap.size ≤ B8) → Hid (B6 ≠ B7) → Hid (B6 ≠ B8) → Hid (B7 ≠ B8) → wpAnyH Try.prog .any O Q9 SS 3 #[true, true, true, true, true, true, true, true, true, false, false, false] ((((((AA.put (some 82) v1).put (some 84) v3).put (some 86) v5).put (some 14) (.pointer (some ⟨B6, 0, none⟩))).put (some 15) (.pointer (some ⟨B7, 0, none⟩))).put (some 16) (.pointer (some ⟨B8, 0, none⟩))) wv := by
              intro wv v1 v3 v5 B6 B7 B8 hX p1 p3 p5 r6 s6 r7 s7 r8 s8 ne6_7 ne6_8 ne7_8
              have hO1 := hO.out
              have hQ1 := hQ.out
              have hA1 := hA.out
              subst hO1
              subst hQ1
              subst hA1
              have XE := hX.out
              have hHeld := KP.out _ XE
              have hS1 := hSS.out
              subst hS1
              try simp only [Act.put, List.getElem_toArray, List.getElem_cons_succ, List.getElem_cons_zero, List.setIfInBounds_toArray, List.set_cons_zero, List.set_cons_succ]
              have k0_6 : w.heap.size ≠ B6 := by have h1 := s6.out; have hz0 := SZ14.out; omega
              have k0_7 : w.heap.size ≠ B7 := by have h1 := s7.out; have hz0 := SZ14.out; omega
              have k0_8 : w.heap.size ≠ B8 := by have h1 := s8.out; have hz0 := SZ14.out; omega
              have n6_7 := ne6_7.out
              have n7_6 := Ne.symm n6_7
              have n6_8 := ne6_8.out
              have n8_6 := Ne.symm n6_8
              have n7_8 := ne7_8.out
              have n8_7 := Ne.symm n7_8
              obtain ⟨_, _, _, _, _, _, _, rfl, O1⟩ := p1.out.op
              obtain ⟨_, _, _, _, _, _, _, rfl, O3⟩ := p3.out.op
              obtain ⟨_, _, _, _, _, _, _, rfl, O5⟩ := p5.out.op
              obtain ⟨_, _, _, i6_0, i6_1, i6_2, f6_0, f6_1, f6_2⟩ := r6.out.rm.c3
              refine wpAnyH_ready (rs := [9]) (by kernel_rfl) (by simp) ?_
              refine AllReadyH.cons (o := _) rfl (fun K hK => ?_) AllReadyH.nil
              go_simp
              refine hK.out _ _ (((((D14.out.ext XE).set1 k0_6 _ _).set1 k0_6 _ _).set1 k0_6 _ _).c3) (fun hHeld => ?_)
              clear hK K
              try simp only [Act.put, List.getElem_toArray, List.getElem_cons_succ, List.getElem_cons_zero, List.setIfInBounds_toArray, List.set_cons_zero, List.set_cons_succ]
              clear hHeld
              refine gen_world (P := wpAnyH _ _ _ _ _ _ _ _) _ (fun Wg9 hWg9 => ?_)
              have CG9_0 : Bx Wg9 (w.heap.size) [.bool s1, t1, t2] := by rw [hWg9]; exact ((((D14.out.ext XE).set1 k0_6 _ _).set1 k0_6 _ _).set1 k0_6 _ _)
              have RG9_7 : Rt Wg9 B7 3 32 := by rw [hWg9]; exact (((r7.out.set1 n7_6 _ _).set1 n7_6 _ _).set1 n7_6 _ _)
              have RG9_8 : Rt Wg9 B8 3 32 := by rw [hWg9]; exact (((r8.out.set1 n8_6 _ _).set1 n8_6 _ _).set1 n8_6 _ _)
              have hHeld : (fun w' => w'.cell? ⟨w.heap.size, 0, none⟩ = some (.bool s1) ∧ w'.cell? ⟨w.heap.size, 1, none⟩ = some (t1) ∧ w'.cell? ⟨w.heap.size, 2, none⟩ = some (t2)) Wg9 := CG9_0.c3
              have HWg9 := Lib.hid hWg9
              clear hWg9
              clear i6_0 f6_0 i6_1 f6_1 i6_2 f6_2
              obtain ⟨_, _, _, i7_0, i7_1, i7_2, f7_0, f7_1, f7_2⟩ := RG9_7.rm.c3
              refine wpAnyH_ready (rs := [10]) (by kernel_rfl) (by simp) ?_
              refine AllReadyH.cons (o := _) rfl (fun K hK => ?_) AllReadyH.nil
              go_simp
              refine hK.out _ _ ((((CG9_0.set1 k0_7 _ _).set1 k0_7 _ _).set1 k0_7 _ _).c3) (fun hHeld => ?_)
              clear hK K
              try simp only [Act.put, List.getElem_toArray, List.getElem_cons_succ, List.getElem_cons_zero, List.setIfInBounds_toArray, List.set_cons_zero, List.set_cons_succ]
              clear hHeld
              refine gen_world (P := wpAnyH _ _ _ _ _ _ _ _) _ (fun Wg10 hWg10 => ?_)
              have CG10_0 : Bx Wg10 (w.heap.size) [.bool s1, t1, t2] := by rw [hWg10]; exact (((CG9_0.set1 k0_7 _ _).set1 k0_7 _ _).set1 k0_7 _ _)
              have RG10_8 : Rt Wg10 B8 3 32 := by rw [hWg10]; exact (((RG9_8.set1 n8_7 _ _).set1 n8_7 _ _).set1 n8_7 _ _)
              have hHeld : (fun w' => w'.cell? ⟨w.heap.size, 0, none⟩ = some (.bool s1) ∧ w'.cell? ⟨w.heap.size, 1, none⟩ = some (t1) ∧ w'.cell? ⟨w.heap.size, 2, none⟩ = some (t2)) Wg10 := CG10_0.c3
              have HWg10 := Lib.hid hWg10
              clear hWg10
              clear i7_0 f7_0 i7_1 f7_1 i7_2 f7_2
              obtain ⟨_, _, _, i8_0, i8_1, i8_2, f8_0, f8_1, f8_2⟩ := RG10_8.rm.c3
              refine wpAnyH_ready (rs := [11]) (by kernel_rfl) (by simp) ?_
              refine AllReadyH.cons (o := _) rfl (fun K hK => ?_) AllReadyH.nil
              go_simp
              refine hK.out _ _ ((((CG10_0.set1 k0_8 _ _).set1 k0_8 _ _).set1 k0_8 _ _).c3) (fun hHeld => ?_)
              clear hK K
              try simp only [Act.put, List.getElem_toArray, List.getElem_cons_succ, List.getElem_cons_zero, List.setIfInBounds_toArray, List.set_cons_zero, List.set_cons_succ]
              refine wpAnyH_done (by kernel_rfl) ?_ _
              refine NoPanic.normal ?_
              rw [HWg10.out]
              rw [HWg9.out]
              go_wp2_with fail
              go_meet
              have hs1 := s6.out
              have hs2 := s7.out
              have hs3 := s8.out
              have hn1 := ne6_7.out
              have hn2 := ne6_8.out
              have hn3 := ne7_8.out
              refine ⟨B6, B7, B8, rfl, rfl, rfl, put3_below (put3_below (put3_below hX.out hs1 _ _ _) hs2 _ _ _) hs3 _ _ _, ⟨hs1, hs2, hs3, hn1, hn2, hn3⟩, ?_⟩
              exact Bs.put (Bs.put (Bs.put (l := []) (fun _ h => by cases h) r6.out O1.out [(B6, q)] (by simp)) (r7.out.putL (Ne.symm hn1) 0 [_, _, _]) (O3.out.putT r6.out (by decide) 0 [_, _, _]) [(B6, q), (B7, q)] (by intro u hu; simp at hu; rcases hu with rfl | rfl <;> simp <;> omega)) ((r8.out.putL (Ne.symm hn2) 0 [_, _, _]).putL (Ne.symm hn3) 0 [_, _, _]) ((O5.out.putT r6.out (by decide) 0 [_, _, _]).putT (r7.out.putL (Ne.symm hn1) 0 [_, _, _]) (by decide) 0 [_, _, _]) [(B6, q), (B7, q), (B8, q)] (by intro u hu; simp at hu; rcases hu with rfl | rfl | rfl <;> simp <;> omega)
            have L2_6_7_8 : ∀ (wv : World) (v1 v3 : Value) (B6 B7 B8 : Nat), Hid (Ext w14 wv) → Hid (OwnQ 163 0 wv v1 q) → Hid (OwnQ 163 0 wv v3 q) → Hid (Rt wv B6 3 32) → Hid (w14.heap.size ≤ B6) → Hid (Rt wv B7 3 32) → Hid (w14.heap.size ≤ B7) → Hid (Rt wv B8 3 32) → Hid (w14.heap.size ≤ B8) → Hid (B6 ≠ B7) → Hid (B6 ≠ B8) → Hid (B7 ≠ B8) → wpAnyH Try.prog .any O Q9 SS 4 #[true, true, true, true, true, false, true, true, true, false, false, false] (((((AA.put (some 82) v1).put (some 84) v3).put (some 14) (.pointer (some ⟨B6, 0, none⟩))).put (some 15) (.pointer (some ⟨B7, 0, none⟩))).put (some 16) (.pointer (some ⟨B8, 0, none⟩))) wv := by
              intro wv v1 v3 B6 B7 B8 hX p1 p3 r6 s6 r7 s7 r8 s8 ne6_7 ne6_8 ne7_8
              have hO1 := hO.out
              have hQ1 := hQ.out
              have hA1 := hA.out
              subst hO1
              subst hQ1
              subst hA1
              have XE := hX.out
              try simp only [Act.put, List.getElem_toArray, List.getElem_cons_succ, List.getElem_cons_zero, List.setIfInBounds_toArray, List.set_cons_zero, List.set_cons_succ]
              refine wpAnyH_ready (rs := [5]) (by kernel_rfl) (by simp) ?_
              refine AllReadyH.cons (o := _) rfl (fun K hK => ?_) AllReadyH.nil
              go_simp
              go_at_call 18
              refine (HOF.out _ _ (HV1.out.ext (Ext.trans b014 XE))).mono ?_
              rintro e wn ⟨vn, rfl, bn, on⟩
              go_wp2_with fail
              refine hK.out _ _ (KP.out _ (Ext.trans XE bn)) (fun _ => ?_)
              clear hK K
              try simp only [Act.put, List.getElem_toArray, List.getElem_cons_succ, List.getElem_cons_zero, List.setIfInBounds_toArray, List.set_cons_zero, List.set_cons_succ]
              exact wpAnyH_at (L3_6_7_8 wn v1 v3 vn B6 B7 B8 (Ext.trans XE bn) (p1.out.ext bn) (p3.out.ext bn) (on) (r6.out.ext bn) s6 (r7.out.ext bn) s7 (r8.out.ext bn) s8 ne6_7 ne6_8 ne7_8) (by kernel_rfl) (by kernel_rfl) (by kernel_rfl)
            have L3_7_8 : ∀ (wv : World) (v1 v3 v5 : Value) (B7 B8 : Nat), Hid (Ext w14 wv) → Hid (OwnQ 163 0 wv v1 q) → Hid (OwnQ 163 0 wv v3 q) → Hid (OwnQ 163 0 wv v5 q) → Hid (Rt wv B7 3 32) → Hid (w14.heap.size ≤ B7) → Hid (Rt wv B8 3 32) → Hid (w14.heap.size ≤ B8) → Hid (B7 ≠ B8) → wpAnyH Try.prog .any O Q9 SS 4 #[true, true, true, true, true, true, false, true, true, false, false, false] (((((AA.put (some 82) v1).put (some 84) v3).put (some 86) v5).put (some 15) (.pointer (some ⟨B7, 0, none⟩))).put (some 16) (.pointer (some ⟨B8, 0, none⟩))) wv := by
              intro wv v1 v3 v5 B7 B8 hX p1 p3 p5 r7 s7 r8 s8 ne7_8
              have hO1 := hO.out
              have hQ1 := hQ.out
              have hA1 := hA.out
              subst hO1
              subst hQ1
              subst hA1
              have XE := hX.out
              try simp only [Act.put, List.getElem_toArray, List.getElem_cons_succ, List.getElem_cons_zero, List.setIfInBounds_toArray, List.set_cons_zero, List.set_cons_succ]
              refine wpAnyH_ready (rs := [6]) (by kernel_rfl) (by simp) ?_
              refine AllReadyH.cons (o := _) rfl (fun K hK => ?_) AllReadyH.nil
              go_simp
              refine hK.out _ _ (KP.out _ (Ext.trans XE (Ext.alloc _ _))) (fun _ => ?_)
              clear hK K
              try simp only [Act.put, List.getElem_toArray, List.getElem_cons_succ, List.getElem_cons_zero, List.setIfInBounds_toArray, List.set_cons_zero, List.set_cons_succ]
              exact wpAnyH_at (L3_6_7_8 _ v1 v3 v5 wv.heap.size B7 B8 (Ext.trans XE (Ext.alloc wv (.cells [.bool false, .slice none 0 0, .slice none 0 0].toArray 32))) (p1.out.ext (Ext.alloc wv (.cells [.bool false, .slice none 0 0, .slice none 0 0].toArray 32))) (p3.out.ext (Ext.alloc wv (.cells [.bool false, .slice none 0 0, .slice none 0 0].toArray 32))) (p5.out.ext (Ext.alloc wv (.cells [.bool false, .slice none 0 0, .slice none 0 0].toArray 32))) (Rt.new wv [.bool false, .slice none 0 0, .slice none 0 0] 32) (Below.size XE) (r7.out.ext (Ext.alloc wv (.cells [.bool false, .slice none 0 0, .slice none 0 0].toArray 32))) s7 (r8.out.ext (Ext.alloc wv (.cells [.bool false, .slice none 0 0, .slice none 0 0].toArray 32))) s8 (Nat.ne_of_gt r7.out.lt) (Nat.ne_of_gt r8.out.lt) ne7_8) (by kernel_rfl) (by kernel_rfl) (by kernel_rfl)
            have L3_6_8 : ∀ (wv : World) (v1 v3 v5 : Value) (B6 B8 : Nat), Hid (Ext w14 wv) → Hid (OwnQ 163 0 wv v1 q) → Hid (OwnQ 163 0 wv v3 q) → Hid (OwnQ 163 0 wv v5 q) → Hid (Rt wv B6 3 32) → Hid (w14.heap.size ≤ B6) → Hid (Rt wv B8 3 32) → Hid (w14.heap.size ≤ B8) → Hid (B6 ≠ B8) → wpAnyH Try.prog .any O Q9 SS 4 #[true, true, true, true, true, true, true, false, true, false, false, false] (((((AA.put (some 82) v1).put (some 84) v3).put (some 86) v5).put (some 14) (.pointer (some ⟨B6, 0, none⟩))).put (some 16) (.pointer (some ⟨B8, 0, none⟩))) wv := by
              intro wv v1 v3 v5 B6 B8 hX p1 p3 p5 r6 s6 r8 s8 ne6_8
              have hO1 := hO.out
              have hQ1 := hQ.out
              have hA1 := hA.out
              subst hO1
              subst hQ1
              subst hA1
              have XE := hX.out
              try simp only [Act.put, List.getElem_toArray, List.getElem_cons_succ, List.getElem_cons_zero, List.setIfInBounds_toArray, List.set_cons_zero, List.set_cons_succ]
              refine wpAnyH_ready (rs := [7]) (by kernel_rfl) (by simp) ?_
              refine AllReadyH.cons (o := _) rfl (fun K hK => ?_) AllReadyH.nil
              go_simp
              refine hK.out _ _ (KP.out _ (Ext.trans XE (Ext.alloc _ _))) (fun _ => ?_)
              clear hK K
              try simp only [Act.put, List.getElem_toArray, List.getElem_cons_succ, List.getElem_cons_zero, List.setIfInBounds_toArray, List.set_cons_zero, List.set_cons_succ]
              exact wpAnyH_at (L3_6_7_8 _ v1 v3 v5 B6 wv.heap.size B8 (Ext.trans XE (Ext.alloc wv (.cells [.bool false, .slice none 0 0, .slice none 0 0].toArray 32))) (p1.out.ext (Ext.alloc wv (.cells [.bool false, .slice none 0 0, .slice none 0 0].toArray 32))) (p3.out.ext (Ext.alloc wv (.cells [.bool false, .slice none 0 0, .slice none 0 0].toArray 32))) (p5.out.ext (Ext.alloc wv (.cells [.bool false, .slice none 0 0, .slice none 0 0].toArray 32))) (r6.out.ext (Ext.alloc wv (.cells [.bool false, .slice none 0 0, .slice none 0 0].toArray 32))) s6 (Rt.new wv [.bool false, .slice none 0 0, .slice none 0 0] 32) (Below.size XE) (r8.out.ext (Ext.alloc wv (.cells [.bool false, .slice none 0 0, .slice none 0 0].toArray 32))) s8 (Nat.ne_of_lt r6.out.lt) ne6_8 (Nat.ne_of_gt r8.out.lt)) (by kernel_rfl) (by kernel_rfl) (by kernel_rfl)
            have L3_6_7 : ∀ (wv : World) (v1 v3 v5 : Value) (B6 B7 : Nat), Hid (Ext w14 wv) → Hid (OwnQ 163 0 wv v1 q) → Hid (OwnQ 163 0 wv v3 q) → Hid (OwnQ 163 0 wv v5 q) → Hid (Rt wv B6 3 32) → Hid (w14.heap.size ≤ B6) → Hid (Rt wv B7 3 32) → Hid (w14.heap.size ≤ B7) → Hid (B6 ≠ B7) → wpAnyH Try.prog .any O Q9 SS 4 #[true, true, true, true, true, true, true, true, false, false, false, false] (((((AA.put (some 82) v1).put (some 84) v3).put (some 86) v5).put (some 14) (.pointer (some ⟨B6, 0, none⟩))).put (some 15) (.pointer (some ⟨B7, 0, none⟩))) wv := by
              intro wv v1 v3 v5 B6 B7 hX p1 p3 p5 r6 s6 r7 s7 ne6_7
              have hO1 := hO.out
              have hQ1 := hQ.out
              have hA1 := hA.out
              subst hO1
              subst hQ1
              subst hA1
              have XE := hX.out
              try simp only [Act.put, List.getElem_toArray, List.getElem_cons_succ, List.getElem_cons_zero, List.setIfInBounds_toArray, List.set_cons_zero, List.set_cons_succ]
              refine wpAnyH_ready (rs := [8]) (by kernel_rfl) (by simp) ?_
              refine AllReadyH.cons (o := _) rfl (fun K hK => ?_) AllReadyH.nil
              go_simp
              refine hK.out _ _ (KP.out _ (Ext.trans XE (Ext.alloc _ _))) (fun _ => ?_)
              clear hK K
              try simp only [Act.put, List.getElem_toArray, List.getElem_cons_succ, List.getElem_cons_zero, List.setIfInBounds_toArray, List.set_cons_zero, List.set_cons_succ]
              exact wpAnyH_at (L3_6_7_8 _ v1 v3 v5 B6 B7 wv.heap.size (Ext.trans XE (Ext.alloc wv (.cells [.bool false, .slice none 0 0, .slice none 0 0].toArray 32))) (p1.out.ext (Ext.alloc wv (.cells [.bool false, .slice none 0 0, .slice none 0 0].toArray 32))) (p3.out.ext (Ext.alloc wv (.cells [.bool false, .slice none 0 0, .slice none 0 0].toArray 32))) (p5.out.ext (Ext.alloc wv (.cells [.bool false, .slice none 0 0, .slice none 0 0].toArray 32))) (r6.out.ext (Ext.alloc wv (.cells [.bool false, .slice none 0 0, .slice none 0 0].toArray 32))) s6 (r7.out.ext (Ext.alloc wv (.cells [.bool false, .slice none 0 0, .slice none 0 0].toArray 32))) s7 (Rt.new wv [.bool false, .slice none 0 0, .slice none 0 0] 32) (Below.size XE) ne6_7 (Nat.ne_of_lt r6.out.lt) (Nat.ne_of_lt r7.out.lt)) (by kernel_rfl) (by kernel_rfl) (by kernel_rfl)
            have L1_6_7_8 : ∀ (wv : World) (v1 : Value) (B6 B7 B8 : Nat), Hid (Ext w14 wv) → Hid (OwnQ 163 0 wv v1 q) → Hid (Rt wv B6 3 32) → Hid (w14.heap.size ≤ B6) → Hid (Rt wv B7 3 32) → Hid (w14.heap.size ≤ B7) → Hid (Rt wv B8 3 32) → Hid (w14.heap.size ≤ B8) → Hid (B6 ≠ B7) → Hid (B6 ≠ B8) → Hid (B7 ≠ B8) → wpAnyH Try.prog .any O Q9 SS 5 #[true, true, true, false, true, false, true, true, true, false, false, false] ((((AA.put (some 82) v1).put (some 14) (.pointer (some ⟨B6, 0, none⟩))).put (some 15) (.pointer (some ⟨B7, 0, none⟩))).put (some 16) (.pointer (some ⟨B8, 0, none⟩))) wv := by
              intro wv v1 B6 B7 B8 hX p1 r6 s6 r7 s7 r8 s8 ne6_7 ne6_8 ne7_8
              have hO1 := hO.out
              have hQ1 := hQ.out
              have hA1 := hA.out
              subst hO1
              subst hQ1
              subst hA1
              have XE := hX.out
              try simp only [Act.put, List.getElem_toArray, List.getElem_cons_succ, List.getElem_cons_zero, List.setIfInBounds_toArray, List.set_cons_zero, List.set_cons_succ]
              refine wpAnyH_ready (rs := [3]) (by kernel_rfl) (by simp) ?_
              refine AllReadyH.cons (o := _) rfl (fun K hK => ?_) AllReadyH.nil
              go_simp
              go_at_call 18
              refine (HOF.out _ _ (HV1.out.ext (Ext.trans b014 XE))).mono ?_
              rintro e wn ⟨vn, rfl, bn, on⟩
              go_wp2_with fail
              refine hK.out _ _ (KP.out _ (Ext.trans XE bn)) (fun _ => ?_)
              clear hK K
              try simp only [Act.put, List.getElem_toArray, List.getElem_cons_succ, List.getElem_cons_zero, List.setIfInBounds_toArray, List.set_cons_zero, List.set_cons_succ]
              exact wpAnyH_at (L2_6_7_8 wn v1 vn B6 B7 B8 (Ext.trans XE bn) (p1.out.ext bn) (on) (r6.out.ext bn) s6 (r7.out.ext bn) s7 (r8.out.ext bn) s8 ne6_7 ne6_8 ne7_8) (by kernel_rfl) (by kernel_rfl) (by kernel_rfl)
            have L2_7_8 : ∀ (wv : World) (v1 v3 : Value) (B7 B8 : Nat), Hid (Ext w14 wv) → Hid (OwnQ 163 0 wv v1 q) → Hid (OwnQ 163 0 wv v3 q) → Hid (Rt wv B7 3 32) → Hid (w14.heap.size ≤ B7) → Hid (Rt wv B8 3 32) → Hid (w14.heap.size ≤ B8) → Hid (B7 ≠ B8) → wpAnyH Try.prog .any O Q9 SS 5 #[true, true, true, true, true, false, false, true, true, false, false, false] ((((AA.put (some 82) v1).put (some 84) v3).put (some 15) (.pointer (some ⟨B7, 0, none⟩))).put (some 16) (.pointer (some ⟨B8, 0, none⟩))) wv := by
              intro wv v1 v3 B7 B8 hX p1 p3 r7 s7 r8 s8 ne7_8
              have hO1 := hO.out
              have hQ1 := hQ.out
              have hA1 := hA.out
              subst hO1
              subst hQ1
              subst hA1
              have XE := hX.out
              try simp only [Act.put, List.getElem_toArray, List.getElem_cons_succ, List.getElem_cons_zero, List.setIfInBounds_toArray, List.set_cons_zero, List.set_cons_succ]
              refine wpAnyH_ready (rs := [5, 6]) (by kernel_rfl) (by simp) ?_
              refine AllReadyH.cons (o := _) rfl (fun K hK => ?_) (AllReadyH.cons (o := _) rfl (fun K hK => ?_) AllReadyH.nil)
              · skip
                go_simp
                go_at_call 18
                refine (HOF.out _ _ (HV1.out.ext (Ext.trans b014 XE))).mono ?_
                rintro e wn ⟨vn, rfl, bn, on⟩
                go_wp2_with fail
                refine hK.out _ _ (KP.out _ (Ext.trans XE bn)) (fun _ => ?_)
                clear hK K
                try simp only [Act.put, List.getElem_toArray, List.getElem_cons_succ, List.getElem_cons_zero, List.setIfInBounds_toArray, List.set_cons_zero, List.set_cons_succ]
                exact wpAnyH_at (L3_7_8 wn v1 v3 vn B7 B8 (Ext.trans XE bn) (p1.out.ext bn) (p3.out.ext bn) (on) (r7.out.ext bn) s7 (r8.out.ext bn) s8 ne7_8) (by kernel_rfl) (by kernel_rfl) (by kernel_rfl)
              · skip
                go_simp
                refine hK.out _ _ (KP.out _ (Ext.trans XE (Ext.alloc _ _))) (fun _ => ?_)
                clear hK K
                try simp only [Act.put, List.getElem_toArray, List.getElem_cons_succ, List.getElem_cons_zero, List.setIfInBounds_toArray, List.set_cons_zero, List.set_cons_succ]
                exact wpAnyH_at (L2_6_7_8 _ v1 v3 wv.heap.size B7 B8 (Ext.trans XE (Ext.alloc wv (.cells [.bool false, .slice none 0 0, .slice none 0 0].toArray 32))) (p1.out.ext (Ext.alloc wv (.cells [.bool false, .slice none 0 0, .slice none 0 0].toArray 32))) (p3.out.ext (Ext.alloc wv (.cells [.bool false, .slice none 0 0, .slice none 0 0].toArray 32))) (Rt.new wv [.bool false, .slice none 0 0, .slice none 0 0] 32) (Below.size XE) (r7.out.ext (Ext.alloc wv (.cells [.bool false, .slice none 0 0, .slice none 0 0].toArray 32))) s7 (r8.out.ext (Ext.alloc wv (.cells [.bool false, .slice none 0 0, .slice none 0 0].toArray 32))) s8 (Nat.ne_of_gt r7.out.lt) (Nat.ne_of_gt r8.out.lt) ne7_8) (by kernel_rfl) (by kernel_rfl) (by kernel_rfl)
            have L2_6_8 : ∀ (wv : World) (v1 v3 : Value) (B6 B8 : Nat), Hid (Ext w14 wv) → Hid (OwnQ 163 0 wv v1 q) → Hid (OwnQ 163 0 wv v3 q) → Hid (Rt wv B6 3 32) → Hid (w14.heap.size ≤ B6) → Hid (Rt wv B8 3 32) → Hid (w14.heap.size ≤ B8) → Hid (B6 ≠ B8) → wpAnyH Try.prog .any O Q9 SS 5 #[true, true, true, true, true, false, true, false, true, false, false, false] ((((AA.put (some 82) v1).put (some 84) v3).put (some 14) (.pointer (some ⟨B6, 0, none⟩))).put (some 16) (.pointer (some ⟨B8, 0, none⟩))) wv := by
              intro wv v1 v3 B6 B8 hX p1 p3 r6 s6 r8 s8 ne6_8
              have hO1 := hO.out
              have hQ1 := hQ.out
              have hA1 := hA.out
              subst hO1
              subst hQ1
              subst hA1
              have XE := hX.out
              try simp only [Act.put, List.getElem_toArray, List.getElem_cons_succ, List.getElem_cons_zero, List.setIfInBounds_toArray, List.set_cons_zero, List.set_cons_succ]
              refine wpAnyH_ready (rs := [5, 7]) (by kernel_rfl) (by simp) ?_
              refine AllReadyH.cons (o := _) rfl (fun K hK => ?_) (AllReadyH.cons (o := _) rfl (fun K hK => ?_) AllReadyH.nil)
              · skip
                go_simp
                go_at_call 18
                refine (HOF.out _ _ (HV1.out.ext (Ext.trans b014 XE))).mono ?_
                rintro e wn ⟨vn, rfl, bn, on⟩
                go_wp2_with fail
                refine hK.out _ _ (KP.out _ (Ext.trans XE bn)) (fun _ => ?_)
                clear hK K
                try simp only [Act.put, List.getElem_toArray, List.getElem_cons_succ, List.getElem_cons_zero, List.setIfInBounds_toArray, List.set_cons_zero, List.set_cons_succ]
                exact wpAnyH_at (L3_6_8 wn v1 v3 vn B6 B8 (Ext.trans XE bn) (p1.out.ext bn) (p3.out.ext bn) (on) (r6.out.ext bn) s6 (r8.out.ext bn) s8 ne6_8) (by kernel_rfl) (by kernel_rfl) (by kernel_rfl)
              · skip
                go_simp
                refine hK.out _ _ (KP.out _ (Ext.trans XE (Ext.alloc _ _))) (fun _ => ?_)
                clear hK K
                try simp only [Act.put, List.getElem_toArray, List.getElem_cons_succ, List.getElem_cons_zero, List.setIfInBounds_toArray, List.set_cons_zero, List.set_cons_succ]
                exact wpAnyH_at (L2_6_7_8 _ v1 v3 B6 wv.heap.size B8 (Ext.trans XE (Ext.alloc wv (.cells [.bool false, .slice none 0 0, .slice none 0 0].toArray 32))) (p1.out.ext (Ext.alloc wv (.cells [.bool false, .slice none 0 0, .slice none 0 0].toArray 32))) (p3.out.ext (Ext.alloc wv (.cells [.bool false, .slice none 0 0, .slice none 0 0].toArray 32))) (r6.out.ext (Ext.alloc wv (.cells [.bool false, .slice none 0 0, .slice none 0 0].toArray 32))) s6 (Rt.new wv [.bool false, .slice none 0 0, .slice none 0 0] 32) (Below.size XE) (r8.out.ext (Ext.alloc wv (.cells [.bool false, .slice none 0 0, .slice none 0 0].toArray 32))) s8 (Nat.ne_of_lt r6.out.lt) ne6_8 (Nat.ne_of_gt r8.out.lt)) (by kernel_rfl) (by kernel_rfl) (by kernel_rfl)
            have L3_8 : ∀ (wv : World) (v1 v3 v5 : Value) (B8 : Nat), Hid (Ext w14 wv) → Hid (OwnQ 163 0 wv v1 q) → Hid (OwnQ 163 0 wv v3 q) → Hid (OwnQ 163 0 wv v5 q) → Hid (Rt wv B8 3 32) → Hid (w14.heap.size ≤ B8) → wpAnyH Try.prog .any O Q9 SS 5 #[true, true, true, true, true, true, false, false, true, false, false, false] ((((AA.put (some 82) v1).put (some 84) v3).put (some 86) v5).put (some 16) (.pointer (some ⟨B8, 0, none⟩))) wv := by
              intro wv v1 v3 v5 B8 hX p1 p3 p5 r8 s8
              have hO1 := hO.out
              have hQ1 := hQ.out
              have hA1 := hA.out
              subst hO1
              subst hQ1
              subst hA1
              have XE := hX.out
              try simp only [Act.put, List.getElem_toArray, List.getElem_cons_succ, List.getElem_cons_zero, List.setIfInBounds_toArray, List.set_cons_zero, List.set_cons_succ]
              refine wpAnyH_ready (rs := [6, 7]) (by kernel_rfl) (by simp) ?_
              refine AllReadyH.cons (o := _) rfl (fun K hK => ?_) (AllReadyH.cons (o := _) rfl (fun K hK => ?_) AllReadyH.nil)
              · skip
                go_simp
                refine hK.out _ _ (KP.out _ (Ext.trans XE (Ext.alloc _ _))) (fun _ => ?_)
                clear hK K
                try simp only [Act.put, List.getElem_toArray, List.getElem_cons_succ, List.getElem_cons_zero, List.setIfInBounds_toArray, List.set_cons_zero, List.set_cons_succ]
                exact wpAnyH_at (L3_6_8 _ v1 v3 v5 wv.heap.size B8 (Ext.trans XE (Ext.alloc wv (.cells [.bool false, .slice none 0 0, .slice none 0 0].toArray 32))) (p1.out.ext (Ext.alloc wv (.cells [.bool false, .slice none 0 0, .slice none 0 0].toArray 32))) (p3.out.ext (Ext.alloc wv (.cells [.bool false, .slice none 0 0, .slice none 0 0].toArray 32))) (p5.out.ext (Ext.alloc wv (.cells [.bool false, .slice none 0 0, .slice none 0 0].toArray 32))) (Rt.new wv [.bool false, .slice none 0 0, .slice none 0 0] 32) (Below.size XE) (r8.out.ext (Ext.alloc wv (.cells [.bool false, .slice none 0 0, .slice none 0 0].toArray 32))) s8 (Nat.ne_of_gt r8.out.lt)) (by kernel_rfl) (by kernel_rfl) (by kernel_rfl)
              · skip
                go_simp
                refine hK.out _ _ (KP.out _ (Ext.trans XE (Ext.alloc _ _))) (fun _ => ?_)
                clear hK K
                try simp only [Act.put, List.getElem_toArray, List.getElem_cons_succ, List.getElem_cons_zero, List.setIfInBounds_toArray, List.set_cons_zero, List.set_cons_succ]
                exact wpAnyH_at (L3_7_8 _ v1 v3 v5 wv.heap.size B8 (Ext.trans XE (Ext.alloc wv (.cells [.bool false, .slice none 0 0, .slice none 0 0].toArray 32))) (p1.out.ext (Ext.alloc wv (.cells [.bool false, .slice none 0 0, .slice none 0 0].toArray 32))) (p3.out.ext (Ext.alloc wv (.cells [.bool false, .slice none 0 0, .slice none 0 0].toArray 32))) (p5.out.ext (Ext.alloc wv (.cells [.bool false, .slice none 0 0, .slice none 0 0].toArray 32))) (Rt.new wv [.bool false, .slice none 0 0, .slice none 0 0] 32) (Below.size XE) (r8.out.ext (Ext.alloc wv (.cells [.bool false, .slice none 0 0, .slice none 0 0].toArray 32))) s8 (Nat.ne_of_gt r8.out.lt)) (by kernel_rfl) (by kernel_rfl) (by kernel_rfl)
            have L2_6_7 : ∀ (wv : World) (v1 v3 : Value) (B6 B7 : Nat), Hid (Ext w14 wv) → Hid (OwnQ 163 0 wv v1 q) → Hid (OwnQ 163 0 wv v3 q) → Hid (Rt wv B6 3 32) → Hid (w14.heap.size ≤ B6) → Hid (Rt wv B7 3 32) → Hid (w14.heap.size ≤ B7) → Hid (B6 ≠ B7) → wpAnyH Try.prog .any O Q9 SS 5 #[true, true, true, true, true, false, true, true, false, false, false, false] ((((AA.put (some 82) v1).put (some 84) v3).put (some 14) (.pointer (some ⟨B6, 0, none⟩))).put (some 15) (.pointer (some ⟨B7, 0, none⟩))) wv := by
              intro wv v1 v3 B6 B7 hX p1 p3 r6 s6 r7 s7 ne6_7
              have hO1 := hO.out
              have hQ1 := hQ.out
              have hA1 := hA.out
              subst hO1
              subst hQ1
              subst hA1
              have XE := hX.out
              try simp only [Act.put, List.getElem_toArray, List.getElem_cons_succ, List.getElem_cons_zero, List.setIfInBounds_toArray, List.set_cons_zero, List.set_cons_succ]
              refine wpAnyH_ready (rs := [5, 8]) (by kernel_rfl) (by simp) ?_
              refine AllReadyH.cons (o := _) rfl (fun K hK => ?_) (AllReadyH.cons (o := _) rfl (fun K hK => ?_) AllReadyH.nil)
              · skip
                go_simp
                go_at_call 18
                refine (HOF.out _ _ (HV1.out.ext (Ext.trans b014 XE))).mono ?_
                rintro e wn ⟨vn, rfl, bn, on⟩
                go_wp2_with fail
                refine hK.out _ _ (KP.out _ (Ext.trans XE bn)) (fun _ => ?_)
                clear hK K
                try simp only [Act.put, List.getElem_toArray, List.getElem_cons_succ, List.getElem_cons_zero, List.setIfInBounds_toArray, List.set_cons_zero, List.set_cons_succ]
                exact wpAnyH_at (L3_6_7 wn v1 v3 vn B6 B7 (Ext.trans XE bn) (p1.out.ext bn) (p3.out.ext bn) (on) (r6.out.ext bn) s6 (r7.out.ext bn) s7 ne6_7) (by kernel_rfl) (by kernel_rfl) (by kernel_rfl)
              · skip
                go_simp
                refine hK.out _ _ (KP.out _ (Ext.trans XE (Ext.alloc _ _))) (fun _ => ?_)
                clear hK K
                try simp only [Act.put, List.getElem_toArray, List.getElem_cons_succ, List.getElem_cons_zero, List.setIfInBounds_toArray, List.set_cons_zero, List.set_cons_succ]
                exact wpAnyH_at (L2_6_7_8 _ v1 v3 B6 B7 wv.heap.size (Ext.trans XE (Ext.alloc wv (.cells [.bool false, .slice none 0 0, .slice none 0 0].toArray 32))) (p1.out.ext (Ext.alloc wv (.cells [.bool false, .slice none 0 0, .slice none 0 0].toArray 32))) (p3.out.ext (Ext.alloc wv (.cells [.bool false, .slice none 0 0, .slice none 0 0].toArray 32))) (r6.out.ext (Ext.alloc wv (.cells [.bool false, .slice none 0 0, .slice none 0 0].toArray 32))) s6 (r7.out.ext (Ext.alloc wv (.cells [.bool false, .slice none 0 0, .slice none 0 0].toArray 32))) s7 (Rt.new wv [.bool false, .slice none 0 0, .slice none 0 0] 32) (Below.size XE) ne6_7 (Nat.ne_of_lt r6.out.lt) (Nat.ne_of_lt r7.out.lt)) (by kernel_rfl) (by kernel_rfl) (by kernel_rfl)
            have L3_7 : ∀ (wv : World) (v1 v3 v5 : Value) (B7 : Nat), Hid (Ext w14 wv) → Hid (OwnQ 163 0 wv v1 q) → Hid (OwnQ 163 0 wv v3 q) → Hid (OwnQ 163 0 wv v5 q) → Hid (Rt wv B7 3 32) → Hid (w14.heap.size ≤ B7) → wpAnyH Try.prog .any O Q9 SS 5 #[true, true, true, true, true, true, false, true, false, false, false, false] ((((AA.put (some 82) v1).put (some 84) v3).put (some 86) v5).put (some 15) (.pointer (some ⟨B7, 0, none⟩))) wv := by
              intro wv v1 v3 v5 B7 hX p1 p3 p5 r7 s7
              have hO1 := hO.out
              have hQ1 := hQ.out
              have hA1 := hA.out
              subst hO1
              subst hQ1
              subst hA1
              have XE := hX.out
              try simp only [Act.put, List.getElem_toArray, List.getElem_cons_succ, List.getElem_cons_zero, List.setIfInBounds_toArray, List.set_cons_zero, List.set_cons_succ]
              refine wpAnyH_ready (rs := [6, 8]) (by kernel_rfl) (by simp) ?_
              refine AllReadyH.cons (o := _) rfl (fun K hK => ?_) (AllReadyH.cons (o := _) rfl (fun K hK => ?_) AllReadyH.nil)
              · skip
                go_simp
                refine hK.out _ _ (KP.out _ (Ext.trans XE (Ext.alloc _ _))) (fun _ => ?_)
                clear hK K
                try simp only [Act.put, List.getElem_toArray, List.getElem_cons_succ, List.getElem_cons_zero, List.setIfInBounds_toArray, List.set_cons_zero, List.set_cons_succ]
                exact wpAnyH_at (L3_6_7 _ v1 v3 v5 wv.heap.size B7 (Ext.trans XE (Ext.alloc wv (.cells [.bool false, .slice none 0 0, .slice none 0 0].toArray 32))) (p1.out.ext (Ext.alloc wv (.cells [.bool false, .slice none 0 0, .slice none 0 0].toArray 32))) (p3.out.ext (Ext.alloc wv (.cells [.bool false, .slice none 0 0, .slice none 0 0].toArray 32))) (p5.out.ext (Ext.alloc wv (.cells [.bool false, .slice none 0 0, .slice none 0 0].toArray 32))) (Rt.new wv [.bool false, .slice none 0 0, .slice none 0 0] 32) (Below.size XE) (r7.out.ext (Ext.alloc wv (.cells [.bool false, .slice none 0 0, .slice none 0 0].toArray 32))) s7 (Nat.ne_of_gt r7.out.lt)) (by kernel_rfl) (by kernel_rfl) (by kernel_rfl)
              · skip
                go_simp
                refine hK.out _ _ (KP.out _ (Ext.trans XE (Ext.alloc _ _))) (fun _ => ?_)
                clear hK K
                try simp only [Act.put, List.getElem_toArray, List.getElem_cons_succ, List.getElem_cons_zero, List.setIfInBounds_toArray, List.set_cons_zero, List.set_cons_succ]
                exact wpAnyH_at (L3_7_8 _ v1 v3 v5 B7 wv.heap.size (Ext.trans XE (Ext.alloc wv (.cells [.bool false, .slice none 0 0, .slice none 0 0].toArray 32))) (p1.out.ext (Ext.alloc wv (.cells [.bool false, .slice none 0 0, .slice none 0 0].toArray 32))) (p3.out.ext (Ext.alloc wv (.cells [.bool false, .slice none 0 0, .slice none 0 0].toArray 32))) (p5.out.ext (Ext.alloc wv (.cells [.bool false, .slice none 0 0, .slice none 0 0].toArray 32))) (r7.out.ext (Ext.alloc wv (.cells [.bool false, .slice none 0 0, .slice none 0 0].toArray 32))) s7 (Rt.new wv [.bool false, .slice none 0 0, .slice none 0 0] 32) (Below.size XE) (Nat.ne_of_lt r7.out.lt)) (by kernel_rfl) (by kernel_rfl) (by kernel_rfl)
            have L3_6 : ∀ (wv : World) (v1 v3 v5 : Value) (B6 : Nat), Hid (Ext w14 wv) → Hid (OwnQ 163 0 wv v1 q) → Hid (OwnQ 163 0 wv v3 q) → Hid (OwnQ 163 0 wv v5 q) → Hid (Rt wv B6 3 32) → Hid (w14.heap.size ≤ B6) → wpAnyH Try.prog .any O Q9 SS 5 #[true, true, true, true, true, true, true, false, false, false, false, false] ((((AA.put (some 82) v1).put (some 84) v3).put (some 86) v5).put (some 14) (.pointer (some ⟨B6, 0, none⟩))) wv := by
              intro wv v1 v3 v5 B6 hX p1 p3 p5 r6 s6
              have hO1 := hO.out
              have hQ1 := hQ.out
              have hA1 := hA.out
              subst hO1
              subst hQ1
              subst hA1
              have XE := hX.out
              try simp only [Act.put, List.getElem_toArray, List.getElem_cons_succ, List.getElem_cons_zero, List.setIfInBounds_toArray, List.set_cons_zero, List.set_cons_succ]
              refine wpAnyH_ready (rs := [7, 8]) (by kernel_rfl) (by simp) ?_
              refine AllReadyH.cons (o := _) rfl (fun K hK => ?_) (AllReadyH.cons (o := _) rfl (fun K hK => ?_) AllReadyH.nil)
              · skip
                go_simp
                refine hK.out _ _ (KP.out _ (Ext.trans XE (Ext.alloc _ _))) (fun _ => ?_)
                clear hK K
                try simp only [Act.put, List.getElem_toArray, List.getElem_cons_succ, List.getElem_cons_zero, List.setIfInBounds_toArray, List.set_cons_zero, List.set_cons_succ]
                exact wpAnyH_at (L3_6_7 _ v1 v3 v5 B6 wv.heap.size (Ext.trans XE (Ext.alloc wv (.cells [.bool false, .slice none 0 0, .slice none 0 0].toArray 32))) (p1.out.ext (Ext.alloc wv (.cells [.bool false, .slice none 0 0, .slice none 0 0].toArray 32))) (p3.out.ext (Ext.alloc wv (.cells [.bool false, .slice none 0 0, .slice none 0 0].toArray 32))) (p5.out.ext (Ext.alloc wv (.cells [.bool false, .slice none 0 0, .slice none 0 0].toArray 32))) (r6.out.ext (Ext.alloc wv (.cells [.bool false, .slice none 0 0, .slice none 0 0].toArray 32))) s6 (Rt.new wv [.bool false, .slice none 0 0, .slice none 0 0] 32) (Below.size XE) (Nat.ne_of_lt r6.out.lt)) (by kernel_rfl) (by kernel_rfl) (by kernel_rfl)
              · skip
                go_simp
                refine hK.out _ _ (KP.out _ (Ext.trans XE (Ext.alloc _ _))) (fun _ => ?_)
                clear hK K
                try simp only [Act.put, List.getElem_toArray, List.getElem_cons_succ, List.getElem_cons_zero, List.setIfInBounds_toArray, List.set_cons_zero, List.set_cons_succ]
                exact wpAnyH_at (L3_6_8 _ v1 v3 v5 B6 wv.heap.size (Ext.trans XE (Ext.alloc wv (.cells [.bool false, .slice none 0 0, .slice none 0 0].toArray 32))) (p1.out.ext (Ext.alloc wv (.cells [.bool false, .slice none 0 0, .slice none 0 0].toArray 32))) (p3.out.ext (Ext.alloc wv (.cells [.bool false, .slice none 0 0, .slice none 0 0].toArray 32))) (p5.out.ext (Ext.alloc wv (.cells [.bool false, .slice none 0 0, .slice none 0 0].toArray 32))) (r6.out.ext (Ext.alloc wv (.cells [.bool false, .slice none 0 0, .slice none 0 0].toArray 32))) s6 (Rt.new wv [.bool false, .slice none 0 0, .slice none 0 0] 32) (Below.size XE) (Nat.ne_of_lt r6.out.lt)) (by kernel_rfl) (by kernel_rfl) (by kernel_rfl)
            have L0_6_7_8 : ∀ (wv : World) (B6 B7 B8 : Nat), Hid (Ext w14 wv) → Hid (Rt wv B6 3 32) → Hid (w14.heap.size ≤ B6) → Hid (Rt wv B7 3 32) → Hid (w14.heap.size ≤ B7) → Hid (Rt wv B8 3 32) → Hid (w14.heap.size ≤ B8) → Hid (B6 ≠ B7) → Hid (B6 ≠ B8) → Hid (B7 ≠ B8) → wpAnyH Try.prog .any O Q9 SS 6 #[true, false, true, false, true, false, true, true, true, false, false, false] (((AA.put (some 14) (.pointer (some ⟨B6, 0, none⟩))).put (some 15) (.pointer (some ⟨B7, 0, none⟩))).put (some 16) (.pointer (some ⟨B8, 0, none⟩))) wv := by
              intro wv B6 B7 B8 hX r6 s6 r7 s7 r8 s8 ne6_7 ne6_8 ne7_8
              have hO1 := hO.out
              have hQ1 := hQ.out
              have hA1 := hA.out
              subst hO1
              subst hQ1
              subst hA1
              have XE := hX.out
              try simp only [Act.put, List.getElem_toArray, List.getElem_cons_succ, List.getElem_cons_zero, List.setIfInBounds_toArray, List.set_cons_zero, List.set_cons_succ]
              refine wpAnyH_ready (rs := [1]) (by kernel_rfl) (by simp) ?_
              refine AllReadyH.cons (o := _) rfl (fun K hK => ?_) AllReadyH.nil
              go_simp
              go_at_call 18
              refine (HOF.out _ _ (HV1.out.ext (Ext.trans b014 XE))).mono ?_
              rintro e wn ⟨vn, rfl, bn, on⟩
              go_wp2_with fail
              refine hK.out _ _ (KP.out _ (Ext.trans XE bn)) (fun _ => ?_)
              clear hK K
              try simp only [Act.put, List.getElem_toArray, List.getElem_cons_succ, List.getElem_cons_zero, List.setIfInBounds_toArray, List.set_cons_zero, List.set_cons_succ]
              exact wpAnyH_at (L1_6_7_8 wn vn B6 B7 B8 (Ext.trans XE bn) (on) (r6.out.ext bn) s6 (r7.out.ext bn) s7 (r8.out.ext bn) s8 ne6_7 ne6_8 ne7_8) (by kernel_rfl) (by kernel_rfl) (by kernel_rfl)
            have L1_7_8 : ∀ (wv : World) (v1 : Value) (B7 B8 : Nat), Hid (Ext w14 wv) → Hid (OwnQ 163 0 wv v1 q) → Hid (Rt wv B7 3 32) → Hid (w14.heap.size ≤ B7) → Hid (Rt wv B8 3 32) → Hid (w14.heap.size ≤ B8) → Hid (B7 ≠ B8) → wpAnyH Try.prog .any O Q9 SS 6 #[true, true, true, false, true, false, false, true, true, false, false, false] (((AA.put (some 82) v1).put (some 15) (.pointer (some ⟨B7, 0, none⟩))).put (some 16) (.pointer (some ⟨B8, 0, none⟩))) wv := by
              intro wv v1 B7 B8 hX p1 r7 s7 r8 s8 ne7_8
              have hO1 := hO.out
              have hQ1 := hQ.out
              have hA1 := hA.out
              subst hO1
              subst hQ1
              subst hA1
              have XE := hX.out
              try simp only [Act.put, List.getElem_toArray, List.getElem_cons_succ, List.getElem_cons_zero, List.setIfInBounds_toArray, List.set_cons_zero, List.set_cons_succ]
              refine wpAnyH_ready (rs := [3, 6]) (by kernel_rfl) (by simp) ?_
              refine AllReadyH.cons (o := _) rfl (fun K hK => ?_) (AllReadyH.cons (o := _) rfl (fun K hK => ?_) AllReadyH.nil)
              · skip
                go_simp
                go_at_call 18
                refine (HOF.out _ _ (HV1.out.ext (Ext.trans b014 XE))).mono ?_
                rintro e wn ⟨vn, rfl, bn, on⟩
                go_wp2_with fail
                refine hK.out _ _ (KP.out _ (Ext.trans XE bn)) (fun _ => ?_)
                clear hK K
                try simp only [Act.put, List.getElem_toArray, List.getElem_cons_succ, List.getElem_cons_zero, List.setIfInBounds_toArray, List.set_cons_zero, List.set_cons_succ]
                exact wpAnyH_at (L2_7_8 wn v1 vn B7 B8 (Ext.trans XE bn) (p1.out.ext bn) (on) (r7.out.ext bn) s7 (r8.out.ext bn) s8 ne7_8) (by kernel_rfl) (by kernel_rfl) (by kernel_rfl)
              · skip
                go_simp
                refine hK.out _ _ (KP.out _ (Ext.trans XE (Ext.alloc _ _))) (fun _ => ?_)
                clear hK K
                try simp only [Act.put, List.getElem_toArray, List.getElem_cons_succ, List.getElem_cons_zero, List.setIfInBounds_toArray, List.set_cons_zero, List.set_cons_succ]
                exact wpAnyH_at (L1_6_7_8 _ v1 wv.heap.size B7 B8 (Ext.trans XE (Ext.alloc wv (.cells [.bool false, .slice none 0 0, .slice none 0 0].toArray 32))) (p1.out.ext (Ext.alloc wv (.cells [.bool false, .slice none 0 0, .slice none 0 0].toArray 32))) (Rt.new wv [.bool false, .slice none 0 0, .slice none 0 0] 32) (Below.size XE) (r7.out.ext (Ext.alloc wv (.cells [.bool false, .slice none 0 0, .slice none 0 0].toArray 32))) s7 (r8.out.ext (Ext.alloc wv (.cells [.bool false, .slice none 0 0, .slice none 0 0].toArray 32))) s8 (Nat.ne_of_gt r7.out.lt) (Nat.ne_of_gt r8.out.lt) ne7_8) (by kernel_rfl) (by kernel_rfl) (by kernel_rfl)
            have L1_6_8 : ∀ (wv : World) (v1 : Value) (B6 B8 : Nat), Hid (Ext w14 wv) → Hid (OwnQ 163 0 wv v1 q) → Hid (Rt wv B6 3 32) → Hid (w14.heap.size ≤ B6) → Hid (Rt wv B8 3 32) → Hid (w14.heap.size ≤ B8) → Hid (B6 ≠ B8) → wpAnyH Try.prog .any O Q9 SS 6 #[true, true, true, false, true, false, true, false, true, false, false, false] (((AA.put (some 82) v1).put (some 14) (.pointer (some ⟨B6, 0, none⟩))).put (some 16) (.pointer (some ⟨B8, 0, none⟩))) wv := by
              intro wv v1 B6 B8 hX p1 r6 s6 r8 s8 ne6_8
              have hO1 := hO.out
              have hQ1 := hQ.out
              have hA1 := hA.out
              subst hO1
              subst hQ1
              subst hA1
              have XE := hX.out
              try simp only [Act.put, List.getElem_toArray, List.getElem_cons_succ, List.getElem_cons_zero, List.setIfInBounds_toArray, List.set_cons_zero, List.set_cons_succ]
              refine wpAnyH_ready (rs := [3, 7]) (by kernel_rfl) (by simp) ?_
              refine AllReadyH.cons (o := _) rfl (fun K hK => ?_) (AllReadyH.cons (o := _) rfl (fun K hK => ?_) AllReadyH.nil)
              · skip
                go_simp
                go_at_call 18
                refine (HOF.out _ _ (HV1.out.ext (Ext.trans b014 XE))).mono ?_
                rintro e wn ⟨vn, rfl, bn, on⟩
                go_wp2_with fail
                refine hK.out _ _ (KP.out _ (Ext.trans XE bn)) (fun _ => ?_)
                clear hK K
                try simp only [Act.put, List.getElem_toArray, List.getElem_cons_succ, List.getElem_cons_zero, List.setIfInBounds_toArray, List.set_cons_zero, List.set_cons_succ]
                exact wpAnyH_at (L2_6_8 wn v1 vn B6 B8 (Ext.trans XE bn) (p1.out.ext bn) (on) (r6.out.ext bn) s6 (r8.out.ext bn) s8 ne6_8) (by kernel_rfl) (by kernel_rfl) (by kernel_rfl)
              · skip
                go_simp
                refine hK.out _ _ (KP.out _ (Ext.trans XE (Ext.alloc _ _))) (fun _ => ?_)
                clear hK K
                try simp only [Act.put, List.getElem_toArray, List.getElem_cons_succ, List.getElem_cons_zero, List.setIfInBounds_toArray, List.set_cons_zero, List.set_cons_succ]
                exact wpAnyH_at (L1_6_7_8 _ v1 B6 wv.heap.size B8 (Ext.trans XE (Ext.alloc wv (.cells [.bool false, .slice none 0 0, .slice none 0 0].toArray 32))) (p1.out.ext (Ext.alloc wv (.cells [.bool false, .slice none 0 0, .slice none 0 0].toArray 32))) (r6.out.ext (Ext.alloc wv (.cells [.bool false, .slice none 0 0, .slice none 0 0].toArray 32))) s6 (Rt.new wv [.bool false, .slice none 0 0, .slice none 0 0] 32) (Below.size XE) (r8.out.ext (Ext.alloc wv (.cells [.bool false, .slice none 0 0, .slice none 0 0].toArray 32))) s8 (Nat.ne_of_lt r6.out.lt) ne6_8 (Nat.ne_of_gt r8.out.lt)) (by kernel_rfl) (by kernel_rfl) (by kernel_rfl)
            have L2_8 : ∀ (wv : World) (v1 v3 : Value) (B8 : Nat), Hid (Ext w14 wv) → Hid (OwnQ 163 0 wv v1 q) → Hid (OwnQ 163 0 wv v3 q) → Hid (Rt wv B8 3 32) → Hid (w14.heap.size ≤ B8) → wpAnyH Try.prog .any O Q9 SS 6 #[true, true, true, true, true, false, false, false, true, false, false, false] (((AA.put (some 82) v1).put (some 84) v3).put (some 16) (.pointer (some ⟨B8, 0, none⟩))) wv := by
              intro wv v1 v3 B8 hX p1 p3 r8 s8
              have hO1 := hO.out
              have hQ1 := hQ.out
              have hA1 := hA.out
              subst hO1
              subst hQ1
              subst hA1
              have XE := hX.out
              try simp only [Act.put, List.getElem_toArray, List.getElem_cons_succ, List.getElem_cons_zero, List.setIfInBounds_toArray, List.set_cons_zero, List.set_cons_succ]
              refine wpAnyH_ready (rs := [5, 6, 7]) (by kernel_rfl) (by simp) ?_
              refine AllReadyH.cons (o := _) rfl (fun K hK => ?_) (AllReadyH.cons (o := _) rfl (fun K hK => ?_) (AllReadyH.cons (o := _) rfl (fun K hK => ?_) AllReadyH.nil))
              · skip
                go_simp
                go_at_call 18
                refine (HOF.out _ _ (HV1.out.ext (Ext.trans b014 XE))).mono ?_
                rintro e wn ⟨vn, rfl, bn, on⟩
                go_wp2_with fail
                refine hK.out _ _ (KP.out _ (Ext.trans XE bn)) (fun _ => ?_)
                clear hK K
                try simp only [Act.put, List.getElem_toArray, List.getElem_cons_succ, List.getElem_cons_zero, List.setIfInBounds_toArray, List.set_cons_zero, List.set_cons_succ]
                exact wpAnyH_at (L3_8 wn v1 v3 vn B8 (Ext.trans XE bn) (p1.out.ext bn) (p3.out.ext bn) (on) (r8.out.ext bn) s8) (by kernel_rfl) (by kernel_rfl) (by kernel_rfl)
              · skip
                go_simp
                refine hK.out _ _ (KP.out _ (Ext.trans XE (Ext.alloc _ _))) (fun _ => ?_)
                clear hK K
                try simp only [Act.put, List.getElem_toArray, List.getElem_cons_succ, List.getElem_cons_zero, List.setIfInBounds_toArray, List.set_cons_zero, List.set_cons_succ]
                exact wpAnyH_at (L2_6_8 _ v1 v3 wv.heap.size B8 (Ext.trans XE (Ext.alloc wv (.cells [.bool false, .slice none 0 0, .slice none 0 0].toArray 32))) (p1.out.ext (Ext.alloc wv (.cells [.bool false, .slice none 0 0, .slice none 0 0].toArray 32))) (p3.out.ext (Ext.alloc wv (.cells [.bool false, .slice none 0 0, .slice none 0 0].toArray 32))) (Rt.new wv [.bool false, .slice none 0 0, .slice none 0 0] 32) (Below.size XE) (r8.out.ext (Ext.alloc wv (.cells [.bool false, .slice none 0 0, .slice none 0 0].toArray 32))) s8 (Nat.ne_of_gt r8.out.lt)) (by kernel_rfl) (by kernel_rfl) (by kernel_rfl)
              · skip
                go_simp
                refine hK.out _ _ (KP.out _ (Ext.trans XE (Ext.alloc _ _))) (fun _ => ?_)
                clear hK K
                try simp only [Act.put, List.getElem_toArray, List.getElem_cons_succ, List.getElem_cons_zero, List.setIfInBounds_toArray, List.set_cons_zero, List.set_cons_succ]
                exact wpAnyH_at (L2_7_8 _ v1 v3 wv.heap.size B8 (Ext.trans XE (Ext.alloc wv (.cells [.bool false, .slice none 0 0, .slice none 0 0].toArray 32))) (p1.out.ext (Ext.alloc wv (.cells [.bool false, .slice none 0 0, .slice none 0 0].toArray 32))) (p3.out.ext (Ext.alloc wv (.cells [.bool false, .slice none 0 0, .slice none 0 0].toArray 32))) (Rt.new wv [.bool false, .slice none 0 0, .slice none 0 0] 32) (Below.size XE) (r8.out.ext (Ext.alloc wv (.cells [.bool false, .slice none 0 0, .slice none 0 0].toArray 32))) s8 (Nat.ne_of_gt r8.out.lt)) (by kernel_rfl) (by kernel_rfl) (by kernel_rfl)
            have L1_6_7 : ∀ (wv : World) (v1 : Value) (B6 B7 : Nat), Hid (Ext w14 wv) → Hid (OwnQ 163 0 wv v1 q) → Hid (Rt wv B6 3 32) → Hid (w14.heap.size ≤ B6) → Hid (Rt wv B7 3 32) → Hid (w14.heap.size ≤ B7) → Hid (B6 ≠ B7) → wpAnyH Try.prog .any O Q9 SS 6 #[true, true, true, false, true, false, true, true, false, false, false, false] (((AA.put (some 82) v1).put (some 14) (.pointer (some ⟨B6, 0, none⟩))).put (some 15) (.pointer (some ⟨B7, 0, none⟩))) wv := by
              intro wv v1 B6 B7 hX p1 r6 s6 r7 s7 ne6_7
              have hO1 := hO.out
              have hQ1 := hQ.out
              have hA1 := hA.out
              subst hO1
              subst hQ1
              subst hA1
              have XE := hX.out
              try simp only [Act.put, List.getElem_toArray, List.getElem_cons_succ, List.getElem_cons_zero, List.setIfInBounds_toArray, List.set_cons_zero, List.set_cons_succ]
              refine wpAnyH_ready (rs := [3, 8]) (by kernel_rfl) (by simp) ?_
              refine AllReadyH.cons (o := _) rfl (fun K hK => ?_) (AllReadyH.cons (o := _) rfl (fun K hK => ?_) AllReadyH.nil)
              · skip
                go_simp
                go_at_call 18
                refine (HOF.out _ _ (HV1.out.ext (Ext.trans b014 XE))).mono ?_
                rintro e wn ⟨vn, rfl, bn, on⟩
                go_wp2_with fail
                refine hK.out _ _ (KP.out _ (Ext.trans XE bn)) (fun _ => ?_)
                clear hK K
                try simp only [Act.put, List.getElem_toArray, List.getElem_cons_succ, List.getElem_cons_zero, List.setIfInBounds_toArray, List.set_cons_zero, List.set_cons_succ]
                exact wpAnyH_at (L2_6_7 wn v1 vn B6 B7 (Ext.trans XE bn) (p1.out.ext bn) (on) (r6.out.ext bn) s6 (r7.out.ext bn) s7 ne6_7) (by kernel_rfl) (by kernel_rfl) (by kernel_rfl)
              · skip
                go_simp
                refine hK.out _ _ (KP.out _ (Ext.trans XE (Ext.alloc _ _))) (fun _ => ?_)
                clear hK K
                try simp only [Act.put, List.getElem_toArray, List.getElem_cons_succ, List.getElem_cons_zero, List.setIfInBounds_toArray, List.set_cons_zero, List.set_cons_succ]
                exact wpAnyH_at (L1_6_7_8 _ v1 B6 B7 wv.heap.size (Ext.trans XE (Ext.alloc wv (.cells [.bool false, .slice none 0 0, .slice none 0 0].toArray 32))) (p1.out.ext (Ext.alloc wv (.cells [.bool false, .slice none 0 0, .slice none 0 0].toArray 32))) (r6.out.ext (Ext.alloc wv (.cells [.bool false, .slice none 0 0, .slice none 0 0].toArray 32))) s6 (r7.out.ext (Ext.alloc wv (.cells [.bool false, .slice none 0 0, .slice none 0 0].toArray 32))) s7 (Rt.new wv [.bool false, .slice none 0 0, .slice none 0 0] 32) (Below.size XE) ne6_7 (Nat.ne_of_lt r6.out.lt) (Nat.ne_of_lt r7.out.lt)) (by kernel_rfl) (by kernel_rfl) (by kernel_rfl)
            have L2_7 : ∀ (wv : World) (v1 v3 : Value) (B7 : Nat), Hid (Ext w14 wv) → Hid (OwnQ 163 0 wv v1 q) → Hid (OwnQ 163 0 wv v3 q) → Hid (Rt wv B7 3 32) → Hid (w14.heap.size ≤ B7) → wpAnyH Try.prog .any O Q9 SS 6 #[true, true, true, true, true, false, false, true, false, false, false, false] (((AA.put (some 82) v1).put (some 84) v3).put (some 15) (.pointer (some ⟨B7, 0, none⟩))) wv := by
              intro wv v1 v3 B7 hX p1 p3 r7 s7
              have hO1 := hO.out
              have hQ1 := hQ.out
              have hA1 := hA.out
              subst hO1
              subst hQ1
              subst hA1
              have XE := hX.out
              try simp only [Act.put, List.getElem_toArray, List.getElem_cons_succ, List.getElem_cons_zero, List.setIfInBounds_toArray, List.set_cons_zero, List.set_cons_succ]
              refine wpAnyH_ready (rs := [5, 6, 8]) (by kernel_rfl) (by simp) ?_
              refine AllReadyH.cons (o := _) rfl (fun K hK => ?_) (AllReadyH.cons (o := _) rfl (fun K hK => ?_) (AllReadyH.cons (o := _) rfl (fun K hK => ?_) AllReadyH.nil))
              · skip
                go_simp
                go_at_call 18
                refine (HOF.out _ _ (HV1.out.ext (Ext.trans b014 XE))).mono ?_
                rintro e wn ⟨vn, rfl, bn, on⟩
                go_wp2_with fail
                refine hK.out _ _ (KP.out _ (Ext.trans XE bn)) (fun _ => ?_)
                clear hK K
                try simp only [Act.put, List.getElem_toArray, List.getElem_cons_succ, List.getElem_cons_zero, List.setIfInBounds_toArray, List.set_cons_zero, List.set_cons_succ]
                exact wpAnyH_at (L3_7 wn v1 v3 vn B7 (Ext.trans XE bn) (p1.out.ext bn) (p3.out.ext bn) (on) (r7.out.ext bn) s7) (by kernel_rfl) (by kernel_rfl) (by kernel_rfl)
              · skip
                go_simp
                refine hK.out _ _ (KP.out _ (Ext.trans XE (Ext.alloc _ _))) (fun _ => ?_)
                clear hK K
                try simp only [Act.put, List.getElem_toArray, List.getElem_cons_succ, List.getElem_cons_zero, List.setIfInBounds_toArray, List.set_cons_zero, List.set_cons_succ]
                exact wpAnyH_at (L2_6_7 _ v1 v3 wv.heap.size B7 (Ext.trans XE (Ext.alloc wv (.cells [.bool false, .slice none 0 0, .slice none 0 0].toArray 32))) (p1.out.ext (Ext.alloc wv (.cells [.bool false, .slice none 0 0, .slice none 0 0].toArray 32))) (p3.out.ext (Ext.alloc wv (.cells [.bool false, .slice none 0 0, .slice none 0 0].toArray 32))) (Rt.new wv [.bool false, .slice none 0 0, .slice none 0 0] 32) (Below.size XE) (r7.out.ext (Ext.alloc wv (.cells [.bool false, .slice none 0 0, .slice none 0 0].toArray 32))) s7 (Nat.ne_of_gt r7.out.lt)) (by kernel_rfl) (by kernel_rfl) (by kernel_rfl)
              · skip
                go_simp
                refine hK.out _ _ (KP.out _ (Ext.trans XE (Ext.alloc _ _))) (fun _ => ?_)
                clear hK K
                try simp only [Act.put, List.getElem_toArray, List.getElem_cons_succ, List.getElem_cons_zero, List.setIfInBounds_toArray, List.set_cons_zero, List.set_cons_succ]
                exact wpAnyH_at (L2_7_8 _ v1 v3 B7 wv.heap.size (Ext.trans XE (Ext.alloc wv (.cells [.bool false, .slice none 0 0, .slice none 0 0].toArray 32))) (p1.out.ext (Ext.alloc wv (.cells [.bool false, .slice none 0 0, .slice none 0 0].toArray 32))) (p3.out.ext (Ext.alloc wv (.cells [.bool false, .slice none 0 0, .slice none 0 0].toArray 32))) (r7.out.ext (Ext.alloc wv (.cells [.bool false, .slice none 0 0, .slice none 0 0].toArray 32))) s7 (Rt.new wv [.bool false, .slice none 0 0, .slice none 0 0] 32) (Below.size XE) (Nat.ne_of_lt r7.out.lt)) (by kernel_rfl) (by kernel_rfl) (by kernel_rfl)
            have L2_6 : ∀ (wv : World) (v1 v3 : Value) (B6 : Nat), Hid (Ext w14 wv) → Hid (OwnQ 163 0 wv v1 q) → Hid (OwnQ 163 0 wv v3 q) → Hid (Rt wv B6 3 32) → Hid (w14.heap.size ≤ B6) → wpAnyH Try.prog .any O Q9 SS 6 #[true, true, true, true, true, false, true, false, false, false, false, false] (((AA.put (some 82) v1).put (some 84) v3).put (some 14) (.pointer (some ⟨B6, 0, none⟩))) wv := by
              intro wv v1 v3 B6 hX p1 p3 r6 s6
              have hO1 := hO.out
              have hQ1 := hQ.out
              have hA1 := hA.out
              subst hO1
              subst hQ1
              subst hA1
              have XE := hX.out
              try simp only [Act.put, List.getElem_toArray, List.getElem_cons_succ, List.getElem_cons_zero, List.setIfInBounds_toArray, List.set_cons_zero, List.set_cons_succ]
              refine wpAnyH_ready (rs := [5, 7, 8]) (by kernel_rfl) (by simp) ?_
              refine AllReadyH.cons (o := _) rfl (fun K hK => ?_) (AllReadyH.cons (o := _) rfl (fun K hK => ?_) (AllReadyH.cons (o := _) rfl (fun K hK => ?_) AllReadyH.nil))
              · skip
                go_simp
                go_at_call 18
                refine (HOF.out _ _ (HV1.out.ext (Ext.trans b014 XE))).mono ?_
                rintro e wn ⟨vn, rfl, bn, on⟩
                go_wp2_with fail
                refine hK.out _ _ (KP.out _ (Ext.trans XE bn)) (fun _ => ?_)
                clear hK K
                try simp only [Act.put, List.getElem_toArray, List.getElem_cons_succ, List.getElem_cons_zero, List.setIfInBounds_toArray, List.set_cons_zero, List.set_cons_succ]
                exact wpAnyH_at (L3_6 wn v1 v3 vn B6 (Ext.trans XE bn) (p1.out.ext bn) (p3.out.ext bn) (on) (r6.out.ext bn) s6) (by kernel_rfl) (by kernel_rfl) (by kernel_rfl)
              · skip
                go_simp
                refine hK.out _ _ (KP.out _ (Ext.trans XE (Ext.alloc _ _))) (fun _ => ?_)
                clear hK K
                try simp only [Act.put, List.getElem_toArray, List.getElem_cons_succ, List.getElem_cons_zero, List.setIfInBounds_toArray, List.set_cons_zero, List.set_cons_succ]
                exact wpAnyH_at (L2_6_7 _ v1 v3 B6 wv.heap.size (Ext.trans XE (Ext.alloc wv (.cells [.bool false, .slice none 0 0, .slice none 0 0].toArray 32))) (p1.out.ext (Ext.alloc wv (.cells [.bool false, .slice none 0 0, .slice none 0 0].toArray 32))) (p3.out.ext (Ext.alloc wv (.cells [.bool false, .slice none 0 0, .slice none 0 0].toArray 32))) (r6.out.ext (Ext.alloc wv (.cells [.bool false, .slice none 0 0, .slice none 0 0].toArray 32))) s6 (Rt.new wv [.bool false, .slice none 0 0, .slice none 0 0] 32) (Below.size XE) (Nat.ne_of_lt r6.out.lt)) (by kernel_rfl) (by kernel_rfl) (by kernel_rfl)
              · skip
                go_simp
                refine hK.out _ _ (KP.out _ (Ext.trans XE (Ext.alloc _ _))) (fun _ => ?_)
                clear hK K
                try simp only [Act.put, List.getElem_toArray, List.getElem_cons_succ, List.getElem_cons_zero, List.setIfInBounds_toArray, List.set_cons_zero, List.set_cons_succ]
                exact wpAnyH_at (L2_6_8 _ v1 v3 B6 wv.heap.size (Ext.trans XE (Ext.alloc wv (.cells [.bool false, .slice none 0 0, .slice none 0 0].toArray 32))) (p1.out.ext (Ext.alloc wv (.cells [.bool false, .slice none 0 0, .slice none 0 0].toArray 32))) (p3.out.ext (Ext.alloc wv (.cells [.bool false, .slice none 0 0, .slice none 0 0].toArray 32))) (r6.out.ext (Ext.alloc wv (.cells [.bool false, .slice none 0 0, .slice none 0 0].toArray 32))) s6 (Rt.new wv [.bool false, .slice none 0 0, .slice none 0 0] 32) (Below.size XE) (Nat.ne_of_lt r6.out.lt)) (by kernel_rfl) (by kernel_rfl) (by kernel_rfl)
            have L3_ : ∀ (wv : World) (v1 v3 v5 : Value), Hid (Ext w14 wv) → Hid (OwnQ 163 0 wv v1 q) → Hid (OwnQ 163 0 wv v3 q) → Hid (OwnQ 163 0 wv v5 q) → wpAnyH Try.prog .any O Q9 SS 6 #[true, true, true, true, true, true, false, false, false, false, false, false] (((AA.put (some 82) v1).put (some 84) v3).put (some 86) v5) wv := by
              intro wv v1 v3 v5 hX p1 p3 p5
              have hO1 := hO.out
              have hQ1 := hQ.out
              have hA1 := hA.out
              subst hO1
              subst hQ1
              subst hA1
              have XE := hX.out
              try simp only [Act.put, List.getElem_toArray, List.getElem_cons_succ, List.getElem_cons_zero, List.setIfInBounds_toArray, List.set_cons_zero, List.set_cons_succ]
              refine wpAnyH_ready (rs := [6, 7, 8]) (by kernel_rfl) (by simp) ?_
              refine AllReadyH.cons (o := _) rfl (fun K hK => ?_) (AllReadyH.cons (o := _) rfl (fun K hK => ?_) (AllReadyH.cons (o := _) rfl (fun K hK => ?_) AllReadyH.nil))
              · skip
                go_simp
                refine hK.out _ _ (KP.out _ (Ext.trans XE (Ext.alloc _ _))) (fun _ => ?_)
                clear hK K
                try simp only [Act.put, List.getElem_toArray, List.getElem_cons_succ, List.getElem_cons_zero, List.setIfInBounds_toArray, List.set_cons_zero, List.set_cons_succ]
                exact wpAnyH_at (L3_6 _ v1 v3 v5 wv.heap.size (Ext.trans XE (Ext.alloc wv (.cells [.bool false, .slice none 0 0, .slice none 0 0].toArray 32))) (p1.out.ext (Ext.alloc wv (.cells [.bool false, .slice none 0 0, .slice none 0 0].toArray 32))) (p3.out.ext (Ext.alloc wv (.cells [.bool false, .slice none 0 0, .slice none 0 0].toArray 32))) (p5.out.ext (Ext.alloc wv (.cells [.bool false, .slice none 0 0, .slice none 0 0].toArray 32))) (Rt.new wv [.bool false, .slice none 0 0, .slice none 0 0] 32) (Below.size XE)) (by kernel_rfl) (by kernel_rfl) (by kernel_rfl)
              · skip
                go_simp
                refine hK.out _ _ (KP.out _ (Ext.trans XE (Ext.alloc _ _))) (fun _ => ?_)
                clear hK K
                try simp only [Act.put, List.getElem_toArray, List.getElem_cons_succ, List.getElem_cons_zero, List.setIfInBounds_toArray, List.set_cons_zero, List.set_cons_succ]
                exact wpAnyH_at (L3_7 _ v1 v3 v5 wv.heap.size (Ext.trans XE (Ext.alloc wv (.cells [.bool false, .slice none 0 0, .slice none 0 0].toArray 32))) (p1.out.ext (Ext.alloc wv (.cells [.bool false, .slice none 0 0, .slice none 0 0].toArray 32))) (p3.out.ext (Ext.alloc wv (.cells [.bool false, .slice none 0 0, .slice none 0 0].toArray 32))) (p5.out.ext (Ext.alloc wv (.cells [.bool false, .slice none 0 0, .slice none 0 0].toArray 32))) (Rt.new wv [.bool false, .slice none 0 0, .slice none 0 0] 32) (Below.size XE)) (by kernel_rfl) (by kernel_rfl) (by kernel_rfl)
              · skip
                go_simp
                refine hK.out _ _ (KP.out _ (Ext.trans XE (Ext.alloc _ _))) (fun _ => ?_)
                clear hK K
                try simp only [Act.put, List.getElem_toArray, List.getElem_cons_succ, List.getElem_cons_zero, List.setIfInBounds_toArray, List.set_cons_zero, List.set_cons_succ]
                exact wpAnyH_at (L3_8 _ v1 v3 v5 wv.heap.size (Ext.trans XE (Ext.alloc wv (.cells [.bool false, .slice none 0 0, .slice none 0 0].toArray 32))) (p1.out.ext (Ext.alloc wv (.cells [.bool false, .slice none 0 0, .slice none 0 0].toArray 32))) (p3.out.ext (Ext.alloc wv (.cells [.bool false, .slice none 0 0, .slice none 0 0].toArray 32))) (p5.out.ext (Ext.alloc wv (.cells [.bool false, .slice none 0 0, .slice none 0 0].toArray 32))) (Rt.new wv [.bool false, .slice none 0 0, .slice none 0 0] 32) (Below.size XE)) (by kernel_rfl) (by kernel_rfl) (by kernel_rfl)
            have L0_7_8 : ∀ (wv : World) (B7 B8 : Nat), Hid (Ext w14 wv) → Hid (Rt wv B7 3 32) → Hid (w14.heap.size ≤ B7) → Hid (Rt wv B8 3 32) → Hid (w14.heap.size ≤ B8) → Hid (B7 ≠ B8) → wpAnyH Try.prog .any O Q9 SS 7 #[true, false, true, false, true, false, false, true, true, false, false, false] ((AA.put (some 15) (.pointer (some ⟨B7, 0, none⟩))).put (some 16) (.pointer (some ⟨B8, 0, none⟩))) wv := by
              intro wv B7 B8 hX r7 s7 r8 s8 ne7_8
              have hO1 := hO.out
              have hQ1 := hQ.out
              have hA1 := hA.out
              subst hO1
              subst hQ1
              subst hA1
              have XE := hX.out
              try simp only [Act.put, List.getElem_toArray, List.getElem_cons_succ, List.getElem_cons_zero, List.setIfInBounds_toArray, List.set_cons_zero, List.set_cons_succ]
              refine wpAnyH_ready (rs := [1, 6]) (by kernel_rfl) (by simp) ?_
              refine AllReadyH.cons (o := _) rfl (fun K hK => ?_) (AllReadyH.cons (o := _) rfl (fun K hK => ?_) AllReadyH.nil)
              · skip
                go_simp
                go_at_call 18
                refine (HOF.out _ _ (HV1.out.ext (Ext.trans b014 XE))).mono ?_
                rintro e wn ⟨vn, rfl, bn, on⟩
                go_wp2_with fail
                refine hK.out _ _ (KP.out _ (Ext.trans XE bn)) (fun _ => ?_)
                clear hK K
                try simp only [Act.put, List.getElem_toArray, List.getElem_cons_succ, List.getElem_cons_zero, List.setIfInBounds_toArray, List.set_cons_zero, List.set_cons_succ]
                exact wpAnyH_at (L1_7_8 wn vn B7 B8 (Ext.trans XE bn) (on) (r7.out.ext bn) s7 (r8.out.ext bn) s8 ne7_8) (by kernel_rfl) (by kernel_rfl) (by kernel_rfl)
              · skip
                go_simp
                refine hK.out _ _ (KP.out _ (Ext.trans XE (Ext.alloc _ _))) (fun _ => ?_)
                clear hK K
                try simp only [Act.put, List.getElem_toArray, List.getElem_cons_succ, List.getElem_cons_zero, List.setIfInBounds_toArray, List.set_cons_zero, List.set_cons_succ]
                exact wpAnyH_at (L0_6_7_8 _ wv.heap.size B7 B8 (Ext.trans XE (Ext.alloc wv (.cells [.bool false, .slice none 0 0, .slice none 0 0].toArray 32))) (Rt.new wv [.bool false, .slice none 0 0, .slice none 0 0] 32) (Below.size XE) (r7.out.ext (Ext.alloc wv (.cells [.bool false, .slice none 0 0, .slice none 0 0].toArray 32))) s7 (r8.out.ext (Ext.alloc wv (.cells [.bool false, .slice none 0 0, .slice none 0 0].toArray 32))) s8 (Nat.ne_of_gt r7.out.lt) (Nat.ne_of_gt r8.out.lt) ne7_8) (by kernel_rfl) (by kernel_rfl) (by kernel_rfl)
            have L0_6_8 : ∀ (wv : World) (B6 B8 : Nat), Hid (Ext w14 wv) → Hid (Rt wv B6 3 32) → Hid (w14.heap.size ≤ B6) → Hid (Rt wv B8 3 32) → Hid (w14.heap.size ≤ B8) → Hid (B6 ≠ B8) → wpAnyH Try.prog .any O Q9 SS 7 #[true, false, true, false, true, false, true, false, true, false, false, false] ((AA.put (some 14) (.pointer (some ⟨B6, 0, none⟩))).put (some 16) (.pointer (some ⟨B8, 0, none⟩))) wv := by
              intro wv B6 B8 hX r6 s6 r8 s8 ne6_8
              have hO1 := hO.out
              have hQ1 := hQ.out
              have hA1 := hA.out
              subst hO1
              subst hQ1
              subst hA1
              have XE := hX.out
              try simp only [Act.put, List.getElem_toArray, List.getElem_cons_succ, List.getElem_cons_zero, List.setIfInBounds_toArray, List.set_cons_zero, List.set_cons_succ]
              refine wpAnyH_ready (rs := [1, 7]) (by kernel_rfl) (by simp) ?_
              refine AllReadyH.cons (o := _) rfl (fun K hK => ?_) (AllReadyH.cons (o := _) rfl (fun K hK => ?_) AllReadyH.nil)
              · skip
                go_simp
                go_at_call 18
                refine (HOF.out _ _ (HV1.out.ext (Ext.trans b014 XE))).mono ?_
                rintro e wn ⟨vn, rfl, bn, on⟩
                go_wp2_with fail
                refine hK.out _ _ (KP.out _ (Ext.trans XE bn)) (fun _ => ?_)
                clear hK K
                try simp only [Act.put, List.getElem_toArray, List.getElem_cons_succ, List.getElem_cons_zero, List.setIfInBounds_toArray, List.set_cons_zero, List.set_cons_succ]
                exact wpAnyH_at (L1_6_8 wn vn B6 B8 (Ext.trans XE bn) (on) (r6.out.ext bn) s6 (r8.out.ext bn) s8 ne6_8) (by kernel_rfl) (by kernel_rfl) (by kernel_rfl)
              · skip
                go_simp
                refine hK.out _ _ (KP.out _ (Ext.trans XE (Ext.alloc _ _))) (fun _ => ?_)
                clear hK K
                try simp only [Act.put, List.getElem_toArray, List.getElem_cons_succ, List.getElem_cons_zero, List.setIfInBounds_toArray, List.set_cons_zero, List.set_cons_succ]
                exact wpAnyH_at (L0_6_7_8 _ B6 wv.heap.size B8 (Ext.trans XE (Ext.alloc wv (.cells [.bool false, .slice none 0 0, .slice none 0 0].toArray 32))) (r6.out.ext (Ext.alloc wv (.cells [.bool false, .slice none 0 0, .slice none 0 0].toArray 32))) s6 (Rt.new wv [.bool false, .slice none 0 0, .slice none 0 0] 32) (Below.size XE) (r8.out.ext (Ext.alloc wv (.cells [.bool false, .slice none 0 0, .slice none 0 0].toArray 32))) s8 (Nat.ne_of_lt r6.out.lt) ne6_8 (Nat.ne_of_gt r8.out.lt)) (by kernel_rfl) (by kernel_rfl) (by kernel_rfl)
            have L1_8 : ∀ (wv : World) (v1 : Value) (B8 : Nat), Hid (Ext w14 wv) → Hid (OwnQ 163 0 wv v1 q) → Hid (Rt wv B8 3 32) → Hid (w14.heap.size ≤ B8) → wpAnyH Try.prog .any O Q9 SS 7 #[true, true, true, false, true, false, false, false, true, false, false, false] ((AA.put (some 82) v1).put (some 16) (.pointer (some ⟨B8, 0, none⟩))) wv := by
              intro wv v1 B8 hX p1 r8 s8
              have hO1 := hO.out
              have hQ1 := hQ.out
              have hA1 := hA.out
              subst hO1
              subst hQ1
              subst hA1
              have XE := hX.out
              try simp only [Act.put, List.getElem_toArray, List.getElem_cons_succ, List.getElem_cons_zero, List.setIfInBounds_toArray, List.set_cons_zero, List.set_cons_succ]
              refine wpAnyH_ready (rs := [3, 6, 7]) (by kernel_rfl) (by simp) ?_
              refine AllReadyH.cons (o := _) rfl (fun K hK => ?_) (AllReadyH.cons (o := _) rfl (fun K hK => ?_) (AllReadyH.cons (o := _) rfl (fun K hK => ?_) AllReadyH.nil))
              · skip
                go_simp
                go_at_call 18
                refine (HOF.out _ _ (HV1.out.ext (Ext.trans b014 XE))).mono ?_
                rintro e wn ⟨vn, rfl, bn, on⟩
                go_wp2_with fail
                refine hK.out _ _ (KP.out _ (Ext.trans XE bn)) (fun _ => ?_)
                clear hK K
                try simp only [Act.put, List.getElem_toArray, List.getElem_cons_succ, List.getElem_cons_zero, List.setIfInBounds_toArray, List.set_cons_zero, List.set_cons_succ]
                exact wpAnyH_at (L2_8 wn v1 vn B8 (Ext.trans XE bn) (p1.out.ext bn) (on) (r8.out.ext bn) s8) (by kernel_rfl) (by kernel_rfl) (by kernel_rfl)
              · skip
                go_simp
                refine hK.out _ _ (KP.out _ (Ext.trans XE (Ext.alloc _ _))) (fun _ => ?_)
                clear hK K
                try simp only [Act.put, List.getElem_toArray, List.getElem_cons_succ, List.getElem_cons_zero, List.setIfInBounds_toArray, List.set_cons_zero, List.set_cons_succ]
                exact wpAnyH_at (L1_6_8 _ v1 wv.heap.size B8 (Ext.trans XE (Ext.alloc wv (.cells [.bool false, .slice none 0 0, .slice none 0 0].toArray 32))) (p1.out.ext (Ext.alloc wv (.cells [.bool false, .slice none 0 0, .slice none 0 0].toArray 32))) (Rt.new wv [.bool false, .slice none 0 0, .slice none 0 0] 32) (Below.size XE) (r8.out.ext (Ext.alloc wv (.cells [.bool false, .slice none 0 0, .slice none 0 0].toArray 32))) s8 (Nat.ne_of_gt r8.out.lt)) (by kernel_rfl) (by kernel_rfl) (by kernel_rfl)
              · skip
                go_simp
                refine hK.out _ _ (KP.out _ (Ext.trans XE (Ext.alloc _ _))) (fun _ => ?_)
                clear hK K
                try simp only [Act.put, List.getElem_toArray, List.getElem_cons_succ, List.getElem_cons_zero, List.setIfInBounds_toArray, List.set_cons_zero, List.set_cons_succ]
                exact wpAnyH_at (L1_7_8 _ v1 wv.heap.size B8 (Ext.trans XE (Ext.alloc wv (.cells [.bool false, .slice none 0 0, .slice none 0 0].toArray 32))) (p1.out.ext (Ext.alloc wv (.cells [.bool false, .slice none 0 0, .slice none 0 0].toArray 32))) (Rt.new wv [.bool false, .slice none 0 0, .slice none 0 0] 32) (Below.size XE) (r8.out.ext (Ext.alloc wv (.cells [.bool false, .slice none 0 0, .slice none 0 0].toArray 32))) s8 (Nat.ne_of_gt r8.out.lt)) (by kernel_rfl) (by kernel_rfl) (by kernel_rfl)
            have L0_6_7 : ∀ (wv : World) (B6 B7 : Nat), Hid (Ext w14 wv) → Hid (Rt wv B6 3 32) → Hid (w14.heap.size ≤ B6) → Hid (Rt wv B7 3 32) → Hid (w14.heap.size ≤ B7) → Hid (B6 ≠ B7) → wpAnyH Try.prog .any O Q9 SS 7 #[true, false, true, false, true, false, true, true, false, false, false, false] ((AA.put (some 14) (.pointer (some ⟨B6, 0, none⟩))).put (some 15) (.pointer (some ⟨B7, 0, none⟩))) wv := by
              intro wv B6 B7 hX r6 s6 r7 s7 ne6_7
              have hO1 := hO.out
              have hQ1 := hQ.out
              have hA1 := hA.out
              subst hO1
              subst hQ1
              subst hA1
              have XE := hX.out
              try simp only [Act.put, List.getElem_toArray, List.getElem_cons_succ, List.getElem_cons_zero, List.setIfInBounds_toArray, List.set_cons_zero, List.set_cons_succ]
              refine wpAnyH_ready (rs := [1, 8]) (by kernel_rfl) (by simp) ?_
              refine AllReadyH.cons (o := _) rfl (fun K hK => ?_) (AllReadyH.cons (o := _) rfl (fun K hK => ?_) AllReadyH.nil)
              · skip
                go_simp
                go_at_call 18
                refine (HOF.out _ _ (HV1.out.ext (Ext.trans b014 XE))).mono ?_
                rintro e wn ⟨vn, rfl, bn, on⟩
                go_wp2_with fail
                refine hK.out _ _ (KP.out _ (Ext.trans XE bn)) (fun _ => ?_)
                clear hK K
                try simp only [Act.put, List.getElem_toArray, List.getElem_cons_succ, List.getElem_cons_zero, List.setIfInBounds_toArray, List.set_cons_zero, List.set_cons_succ]
                exact wpAnyH_at (L1_6_7 wn vn B6 B7 (Ext.trans XE bn) (on) (r6.out.ext bn) s6 (r7.out.ext bn) s7 ne6_7) (by kernel_rfl) (by kernel_rfl) (by kernel_rfl)
              · skip
                go_simp
                refine hK.out _ _ (KP.out _ (Ext.trans XE (Ext.alloc _ _))) (fun _ => ?_)
                clear hK K
                try simp only [Act.put, List.getElem_toArray, List.getElem_cons_succ, List.getElem_cons_zero, List.setIfInBounds_toArray, List.set_cons_zero, List.set_cons_succ]
                exact wpAnyH_at (L0_6_7_8 _ B6 B7 wv.heap.size (Ext.trans XE (Ext.alloc wv (.cells [.bool false, .slice none 0 0, .slice none 0 0].toArray 32))) (r6.out.ext (Ext.alloc wv (.cells [.bool false, .slice none 0 0, .slice none 0 0].toArray 32))) s6 (r7.out.ext (Ext.alloc wv (.cells [.bool false, .slice none 0 0, .slice none 0 0].toArray 32))) s7 (Rt.new wv [.bool false, .slice none 0 0, .slice none 0 0] 32) (Below.size XE) ne6_7 (Nat.ne_of_lt r6.out.lt) (Nat.ne_of_lt r7.out.lt)) (by kernel_rfl) (by kernel_rfl) (by kernel_rfl)
            have L1_7 : ∀ (wv : World) (v1 : Value) (B7 : Nat), Hid (Ext w14 wv) → Hid (OwnQ 163 0 wv v1 q) → Hid (Rt wv B7 3 32) → Hid (w14.heap.size ≤ B7) → wpAnyH Try.prog .any O Q9 SS 7 #[true, true, true, false, true, false, false, true, false, false, false, false] ((AA.put (some 82) v1).put (some 15) (.pointer (some ⟨B7, 0, none⟩))) wv := by
              intro wv v1 B7 hX p1 r7 s7
              have hO1 := hO.out
              have hQ1 := hQ.out
              have hA1 := hA.out
              subst hO1
              subst hQ1
              subst hA1
              have XE := hX.out
              try simp only [Act.put, List.getElem_toArray, List.getElem_cons_succ, List.getElem_cons_zero, List.setIfInBounds_toArray, List.set_cons_zero, List.set_cons_succ]
              refine wpAnyH_ready (rs := [3, 6, 8]) (by kernel_rfl) (by simp) ?_
              refine AllReadyH.cons (o := _) rfl (fun K hK => ?_) (AllReadyH.cons (o := _) rfl (fun K hK => ?_) (AllReadyH.cons (o := _) rfl (fun K hK => ?_) AllReadyH.nil))
              · skip
                go_simp
                go_at_call 18
                refine (HOF.out _ _ (HV1.out.ext (Ext.trans b014 XE))).mono ?_
                rintro e wn ⟨vn, rfl, bn, on⟩
                go_wp2_with fail
                refine hK.out _ _ (KP.out _ (Ext.trans XE bn)) (fun _ => ?_)
                clear hK K
                try simp only [Act.put, List.getElem_toArray, List.getElem_cons_succ, List.getElem_cons_zero, List.setIfInBounds_toArray, List.set_cons_zero, List.set_cons_succ]
                exact wpAnyH_at (L2_7 wn v1 vn B7 (Ext.trans XE bn) (p1.out.ext bn) (on) (r7.out.ext bn) s7) (by kernel_rfl) (by kernel_rfl) (by kernel_rfl)
              · skip
                go_simp
                refine hK.out _ _ (KP.out _ (Ext.trans XE (Ext.alloc _ _))) (fun _ => ?_)
                clear hK K
                try simp only [Act.put, List.getElem_toArray, List.getElem_cons_succ, List.getElem_cons_zero, List.setIfInBounds_toArray, List.set_cons_zero, List.set_cons_succ]
                exact wpAnyH_at (L1_6_7 _ v1 wv.heap.size B7 (Ext.trans XE (Ext.alloc wv (.cells [.bool false, .slice none 0 0, .slice none 0 0].toArray 32))) (p1.out.ext (Ext.alloc wv (.cells [.bool false, .slice none 0 0, .slice none 0 0].toArray 32))) (Rt.new wv [.bool false, .slice none 0 0, .slice none 0 0] 32) (Below.size XE) (r7.out.ext (Ext.alloc wv (.cells [.bool false, .slice none 0 0, .slice none 0 0].toArray 32))) s7 (Nat.ne_of_gt r7.out.lt)) (by kernel_rfl) (by kernel_rfl) (by kernel_rfl)
              · skip
                go_simp
                refine hK.out _ _ (KP.out _ (Ext.trans XE (Ext.alloc _ _))) (fun _ => ?_)
                clear hK K
                try simp only [Act.put, List.getElem_toArray, List.getElem_cons_succ, List.getElem_cons_zero, List.setIfInBounds_toArray, List.set_cons_zero, List.set_cons_succ]
                exact wpAnyH_at (L1_7_8 _ v1 B7 wv.heap.size (Ext.trans XE (Ext.alloc wv (.cells [.bool false, .slice none 0 0, .slice none 0 0].toArray 32))) (p1.out.ext (Ext.alloc wv (.cells [.bool false, .slice none 0 0, .slice none 0 0].toArray 32))) (r7.out.ext (Ext.alloc wv (.cells [.bool false, .slice none 0 0, .slice none 0 0].toArray 32))) s7 (Rt.new wv [.bool false, .slice none 0 0, .slice none 0 0] 32) (Below.size XE) (Nat.ne_of_lt r7.out.lt)) (by kernel_rfl) (by kernel_rfl) (by kernel_rfl)
            have L1_6 : ∀ (wv : World) (v1 : Value) (B6 : Nat), Hid (Ext w14 wv) → Hid (OwnQ 163 0 wv v1 q) → Hid (Rt wv B6 3 32) → Hid (w14.heap.size ≤ B6) → wpAnyH Try.prog .any O Q9 SS 7 #[true, true, true, false, true, false, true, false, false, false, false, false] ((AA.put (some 82) v1).put (some 14) (.pointer (some ⟨B6, 0, none⟩))) wv := by
              intro wv v1 B6 hX p1 r6 s6
              have hO1 := hO.out
              have hQ1 := hQ.out
              have hA1 := hA.out
              subst hO1
              subst hQ1
              subst hA1
              have XE := hX.out
              try simp only [Act.put, List.getElem_toArray, List.getElem_cons_succ, List.getElem_cons_zero, List.setIfInBounds_toArray, List.set_cons_zero, List.set_cons_succ]
              refine wpAnyH_ready (rs := [3, 7, 8]) (by kernel_rfl) (by simp) ?_
              refine AllReadyH.cons (o := _) rfl (fun K hK => ?_) (AllReadyH.cons (o := _) rfl (fun K hK => ?_) (AllReadyH.cons (o := _) rfl (fun K hK => ?_) AllReadyH.nil))
              · skip
                go_simp
                go_at_call 18
                refine (HOF.out _ _ (HV1.out.ext (Ext.trans b014 XE))).mono ?_
                rintro e wn ⟨vn, rfl, bn, on⟩
                go_wp2_with fail
                refine hK.out _ _ (KP.out _ (Ext.trans XE bn)) (fun _ => ?_)
                clear hK K
                try simp only [Act.put, List.getElem_toArray, List.getElem_cons_succ, List.getElem_cons_zero, List.setIfInBounds_toArray, List.set_cons_zero, List.set_cons_succ]
                exact wpAnyH_at (L2_6 wn v1 vn B6 (Ext.trans XE bn) (p1.out.ext bn) (on) (r6.out.ext bn) s6) (by kernel_rfl) (by kernel_rfl) (by kernel_rfl)
              · skip
                go_simp
                refine hK.out _ _ (KP.out _ (Ext.trans XE (Ext.alloc _ _))) (fun _ => ?_)
                clear hK K
                try simp only [Act.put, List.getElem_toArray, List.getElem_cons_succ, List.getElem_cons_zero, List.setIfInBounds_toArray, List.set_cons_zero, List.set_cons_succ]
                exact wpAnyH_at (L1_6_7 _ v1 B6 wv.heap.size (Ext.trans XE (Ext.alloc wv (.cells [.bool false, .slice none 0 0, .slice none 0 0].toArray 32))) (p1.out.ext (Ext.alloc wv (.cells [.bool false, .slice none 0 0, .slice none 0 0].toArray 32))) (r6.out.ext (Ext.alloc wv (.cells [.bool false, .slice none 0 0, .slice none 0 0].toArray 32))) s6 (Rt.new wv [.bool false, .slice none 0 0, .slice none 0 0] 32) (Below.size XE) (Nat.ne_of_lt r6.out.lt)) (by kernel_rfl) (by kernel_rfl) (by kernel_rfl)
              · skip
                go_simp
                refine hK.out _ _ (KP.out _ (Ext.trans XE (Ext.alloc _ _))) (fun _ => ?_)
                clear hK K
                try simp only [Act.put, List.getElem_toArray, List.getElem_cons_succ, List.getElem_cons_zero, List.setIfInBounds_toArray, List.set_cons_zero, List.set_cons_succ]
                exact wpAnyH_at (L1_6_8 _ v1 B6 wv.heap.size (Ext.trans XE (Ext.alloc wv (.cells [.bool false, .slice none 0 0, .slice none 0 0].toArray 32))) (p1.out.ext (Ext.alloc wv (.cells [.bool false, .slice none 0 0, .slice none 0 0].toArray 32))) (r6.out.ext (Ext.alloc wv (.cells [.bool false, .slice none 0 0, .slice none 0 0].toArray 32))) s6 (Rt.new wv [.bool false, .slice none 0 0, .slice none 0 0] 32) (Below.size XE) (Nat.ne_of_lt r6.out.lt)) (by kernel_rfl) (by kernel_rfl) (by kernel_rfl)
            have L2_ : ∀ (wv : World) (v1 v3 : Value), Hid (Ext w14 wv) → Hid (OwnQ 163 0 wv v1 q) → Hid (OwnQ 163 0 wv v3 q) → wpAnyH Try.prog .any O Q9 SS 7 #[true, true, true, true, true, false, false, false, false, false, false, false] ((AA.put (some 82) v1).put (some 84) v3) wv := by
              intro wv v1 v3 hX p1 p3
              have hO1 := hO.out
              have hQ1 := hQ.out
              have hA1 := hA.out
              subst hO1
              subst hQ1
              subst hA1
              have XE := hX.out
              try simp only [Act.put, List.getElem_toArray, List.getElem_cons_succ, List.getElem_cons_zero, List.setIfInBounds_toArray, List.set_cons_zero, List.set_cons_succ]
              refine wpAnyH_ready (rs := [5, 6, 7, 8]) (by kernel_rfl) (by simp) ?_
              refine AllReadyH.cons (o := _) rfl (fun K hK => ?_) (AllReadyH.cons (o := _) rfl (fun K hK => ?_) (AllReadyH.cons (o := _) rfl (fun K hK => ?_) (AllReadyH.cons (o := _) rfl (fun K hK => ?_) AllReadyH.nil)))
              · skip
                go_simp
                go_at_call 18
                refine (HOF.out _ _ (HV1.out.ext (Ext.trans b014 XE))).mono ?_
                rintro e wn ⟨vn, rfl, bn, on⟩
                go_wp2_with fail
                refine hK.out _ _ (KP.out _ (Ext.trans XE bn)) (fun _ => ?_)
                clear hK K
                try simp only [Act.put, List.getElem_toArray, List.getElem_cons_succ, List.getElem_cons_zero, List.setIfInBounds_toArray, List.set_cons_zero, List.set_cons_succ]
                exact wpAnyH_at (L3_ wn v1 v3 vn (Ext.trans XE bn) (p1.out.ext bn) (p3.out.ext bn) (on)) (by kernel_rfl) (by kernel_rfl) (by kernel_rfl)
              · skip
                go_simp
                refine hK.out _ _ (KP.out _ (Ext.trans XE (Ext.alloc _ _))) (fun _ => ?_)
                clear hK K
                try simp only [Act.put, List.getElem_toArray, List.getElem_cons_succ, List.getElem_cons_zero, List.setIfInBounds_toArray, List.set_cons_zero, List.set_cons_succ]
                exact wpAnyH_at (L2_6 _ v1 v3 wv.heap.size (Ext.trans XE (Ext.alloc wv (.cells [.bool false, .slice none 0 0, .slice none 0 0].toArray 32))) (p1.out.ext (Ext.alloc wv (.cells [.bool false, .slice none 0 0, .slice none 0 0].toArray 32))) (p3.out.ext (Ext.alloc wv (.cells [.bool false, .slice none 0 0, .slice none 0 0].toArray 32))) (Rt.new wv [.bool false, .slice none 0 0, .slice none 0 0] 32) (Below.size XE)) (by kernel_rfl) (by kernel_rfl) (by kernel_rfl)
              · skip
                go_simp
                refine hK.out _ _ (KP.out _ (Ext.trans XE (Ext.alloc _ _))) (fun _ => ?_)
                clear hK K
                try simp only [Act.put, List.getElem_toArray, List.getElem_cons_succ, List.getElem_cons_zero, List.setIfInBounds_toArray, List.set_cons_zero, List.set_cons_succ]
                exact wpAnyH_at (L2_7 _ v1 v3 wv.heap.size (Ext.trans XE (Ext.alloc wv (.cells [.bool false, .slice none 0 0, .slice none 0 0].toArray 32))) (p1.out.ext (Ext.alloc wv (.cells [.bool false, .slice none 0 0, .slice none 0 0].toArray 32))) (p3.out.ext (Ext.alloc wv (.cells [.bool false, .slice none 0 0, .slice none 0 0].toArray 32))) (Rt.new wv [.bool false, .slice none 0 0, .slice none 0 0] 32) (Below.size XE)) (by kernel_rfl) (by kernel_rfl) (by kernel_rfl)
              · skip
                go_simp
                refine hK.out _ _ (KP.out _ (Ext.trans XE (Ext.alloc _ _))) (fun _ => ?_)
                clear hK K
                try simp only [Act.put, List.getElem_toArray, List.getElem_cons_succ, List.getElem_cons_zero, List.setIfInBounds_toArray, List.set_cons_zero, List.set_cons_succ]
                exact wpAnyH_at (L2_8 _ v1 v3 wv.heap.size (Ext.trans XE (Ext.alloc wv (.cells [.bool false, .slice none 0 0, .slice none 0 0].toArray 32))) (p1.out.ext (Ext.alloc wv (.cells [.bool false, .slice none 0 0, .slice none 0 0].toArray 32))) (p3.out.ext (Ext.alloc wv (.cells [.bool false, .slice none 0 0, .slice none 0 0].toArray 32))) (Rt.new wv [.bool false, .slice none 0 0, .slice none 0 0] 32) (Below.size XE)) (by kernel_rfl) (by kernel_rfl) (by kernel_rfl)
            have L0_8 : ∀ (wv : World) (B8 : Nat), Hid (Ext w14 wv) → Hid (Rt wv B8 3 32) → Hid (w14.heap.size ≤ B8) → wpAnyH Try.prog .any O Q9 SS 8 #[true, false, true, false, true, false, false, false, true, false, false, false] (AA.put (some 16) (.pointer (some ⟨B8, 0, none⟩))) wv := by
              intro wv B8 hX r8 s8
              have hO1 := hO.out
              have hQ1 := hQ.out
              have hA1 := hA.out
              subst hO1
              subst hQ1
              subst hA1
              have XE := hX.out
              try simp only [Act.put, List.getElem_toArray, List.getElem_cons_succ, List.getElem_cons_zero, List.setIfInBounds_toArray, List.set_cons_zero, List.set_cons_succ]
              refine wpAnyH_ready (rs := [1, 6, 7]) (by kernel_rfl) (by simp) ?_
              refine AllReadyH.cons (o := _) rfl (fun K hK => ?_) (AllReadyH.cons (o := _) rfl (fun K hK => ?_) (AllReadyH.cons (o := _) rfl (fun K hK => ?_) AllReadyH.nil))
              · skip
                go_simp
                go_at_call 18
                refine (HOF.out _ _ (HV1.out.ext (Ext.trans b014 XE))).mono ?_
                rintro e wn ⟨vn, rfl, bn, on⟩
                go_wp2_with fail
                refine hK.out _ _ (KP.out _ (Ext.trans XE bn)) (fun _ => ?_)
                clear hK K
                try simp only [Act.put, List.getElem_toArray, List.getElem_cons_succ, List.getElem_cons_zero, List.setIfInBounds_toArray, List.set_cons_zero, List.set_cons_succ]
                exact wpAnyH_at (L1_8 wn vn B8 (Ext.trans XE bn) (on) (r8.out.ext bn) s8) (by kernel_rfl) (by kernel_rfl) (by kernel_rfl)
              · skip
                go_simp
                refine hK.out _ _ (KP.out _ (Ext.trans XE (Ext.alloc _ _))) (fun _ => ?_)
                clear hK K
                try simp only [Act.put, List.getElem_toArray, List.getElem_cons_succ, List.getElem_cons_zero, List.setIfInBounds_toArray, List.set_cons_zero, List.set_cons_succ]
                exact wpAnyH_at (L0_6_8 _ wv.heap.size B8 (Ext.trans XE (Ext.alloc wv (.cells [.bool false, .slice none 0 0, .slice none 0 0].toArray 32))) (Rt.new wv [.bool false, .slice none 0 0, .slice none 0 0] 32) (Below.size XE) (r8.out.ext (Ext.alloc wv (.cells [.bool false, .slice none 0 0, .slice none 0 0].toArray 32))) s8 (Nat.ne_of_gt r8.out.lt)) (by kernel_rfl) (by kernel_rfl) (by kernel_rfl)
              · skip
                go_simp
                refine hK.out _ _ (KP.out _ (Ext.trans XE (Ext.alloc _ _))) (fun _ => ?_)
                clear hK K
                try simp only [Act.put, List.getElem_toArray, List.getElem_cons_succ, List.getElem_cons_zero, List.setIfInBounds_toArray, List.set_cons_zero, List.set_cons_succ]
                exact wpAnyH_at (L0_7_8 _ wv.heap.size B8 (Ext.trans XE (Ext.alloc wv (.cells [.bool false, .slice none 0 0, .slice none 0 0].toArray 32))) (Rt.new wv [.bool false, .slice none 0 0, .slice none 0 0] 32) (Below.size XE) (r8.out.ext (Ext.alloc wv (.cells [.bool false, .slice none 0 0, .slice none 0 0].toArray 32))) s8 (Nat.ne_of_gt r8.out.lt)) (by kernel_rfl) (by kernel_rfl) (by kernel_rfl)
            have L0_7 : ∀ (wv : World) (B7 : Nat), Hid (Ext w14 wv) → Hid (Rt wv B7 3 32) → Hid (w14.heap.size ≤ B7) → wpAnyH Try.prog .any O Q9 SS 8 #[true, false, true, false, true, false, false, true, false, false, false, false] (AA.put (some 15) (.pointer (some ⟨B7, 0, none⟩))) wv := by
              intro wv B7 hX r7 s7
              have hO1 := hO.out
              have hQ1 := hQ.out
              have hA1 := hA.out
              subst hO1
              subst hQ1
              subst hA1
              have XE := hX.out
              try simp only [Act.put, List.getElem_toArray, List.getElem_cons_succ, List.getElem_cons_zero, List.setIfInBounds_toArray, List.set_cons_zero, List.set_cons_succ]
              refine wpAnyH_ready (rs := [1, 6, 8]) (by kernel_rfl) (by simp) ?_
              refine AllReadyH.cons (o := _) rfl (fun K hK => ?_) (AllReadyH.cons (o := _) rfl (fun K hK => ?_) (AllReadyH.cons (o := _) rfl (fun K hK => ?_) AllReadyH.nil))
              · skip
                go_simp
                go_at_call 18
                refine (HOF.out _ _ (HV1.out.ext (Ext.trans b014 XE))).mono ?_
                rintro e wn ⟨vn, rfl, bn, on⟩
                go_wp2_with fail
                refine hK.out _ _ (KP.out _ (Ext.trans XE bn)) (fun _ => ?_)
                clear hK K
                try simp only [Act.put, List.getElem_toArray, List.getElem_cons_succ, List.getElem_cons_zero, List.setIfInBounds_toArray, List.set_cons_zero, List.set_cons_succ]
                exact wpAnyH_at (L1_7 wn vn B7 (Ext.trans XE bn) (on) (r7.out.ext bn) s7) (by kernel_rfl) (by kernel_rfl) (by kernel_rfl)
              · skip
                go_simp
                refine hK.out _ _ (KP.out _ (Ext.trans XE (Ext.alloc _ _))) (fun _ => ?_)
                clear hK K
                try simp only [Act.put, List.getElem_toArray, List.getElem_cons_succ, List.getElem_cons_zero, List.setIfInBounds_toArray, List.set_cons_zero, List.set_cons_succ]
                exact wpAnyH_at (L0_6_7 _ wv.heap.size B7 (Ext.trans XE (Ext.alloc wv (.cells [.bool false, .slice none 0 0, .slice none 0 0].toArray 32))) (Rt.new wv [.bool false, .slice none 0 0, .slice none 0 0] 32) (Below.size XE) (r7.out.ext (Ext.alloc wv (.cells [.bool false, .slice none 0 0, .slice none 0 0].toArray 32))) s7 (Nat.ne_of_gt r7.out.lt)) (by kernel_rfl) (by kernel_rfl) (by kernel_rfl)
              · skip
                go_simp
                refine hK.out _ _ (KP.out _ (Ext.trans XE (Ext.alloc _ _))) (fun _ => ?_)
                clear hK K
                try simp only [Act.put, List.getElem_toArray, List.getElem_cons_succ, List.getElem_cons_zero, List.setIfInBounds_toArray, List.set_cons_zero, List.set_cons_succ]
                exact wpAnyH_at (L0_7_8 _ B7 wv.heap.size (Ext.trans XE (Ext.alloc wv (.cells [.bool false, .slice none 0 0, .slice none 0 0].toArray 32))) (r7.out.ext (Ext.alloc wv (.cells [.bool false, .slice none 0 0, .slice none 0 0].toArray 32))) s7 (Rt.new wv [.bool false, .slice none 0 0, .slice none 0 0] 32) (Below.size XE) (Nat.ne_of_lt r7.out.lt)) (by kernel_rfl) (by kernel_rfl) (by kernel_rfl)
            have L0_6 : ∀ (wv : World) (B6 : Nat), Hid (Ext w14 wv) → Hid (Rt wv B6 3 32) → Hid (w14.heap.size ≤ B6) → wpAnyH Try.prog .any O Q9 SS 8 #[true, false, true, false, true, false, true, false, false, false, false, false] (AA.put (some 14) (.pointer (some ⟨B6, 0, none⟩))) wv := by
              intro wv B6 hX r6 s6
              have hO1 := hO.out
              have hQ1 := hQ.out
              have hA1 := hA.out
              subst hO1
              subst hQ1
              subst hA1
              have XE := hX.out
              try simp only [Act.put, List.getElem_toArray, List.getElem_cons_succ, List.getElem_cons_zero, List.setIfInBounds_toArray, List.set_cons_zero, List.set_cons_succ]
              refine wpAnyH_ready (rs := [1, 7, 8]) (by kernel_rfl) (by simp) ?_
              refine AllReadyH.cons (o := _) rfl (fun K hK => ?_) (AllReadyH.cons (o := _) rfl (fun K hK => ?_) (AllReadyH.cons (o := _) rfl (fun K hK => ?_) AllReadyH.nil))
              · skip
                go_simp
                go_at_call 18
                refine (HOF.out _ _ (HV1.out.ext (Ext.trans b014 XE))).mono ?_
                rintro e wn ⟨vn, rfl, bn, on⟩
                go_wp2_with fail
                refine hK.out _ _ (KP.out _ (Ext.trans XE bn)) (fun _ => ?_)
                clear hK K
                try simp only [Act.put, List.getElem_toArray, List.getElem_cons_succ, List.getElem_cons_zero, List.setIfInBounds_toArray, List.set_cons_zero, List.set_cons_succ]
                exact wpAnyH_at (L1_6 wn vn B6 (Ext.trans XE bn) (on) (r6.out.ext bn) s6) (by kernel_rfl) (by kernel_rfl) (by kernel_rfl)
              · skip
                go_simp
                refine hK.out _ _ (KP.out _ (Ext.trans XE (Ext.alloc _ _))) (fun _ => ?_)
                clear hK K
                try simp only [Act.put, List.getElem_toArray, List.getElem_cons_succ, List.getElem_cons_zero, List.setIfInBounds_toArray, List.set_cons_zero, List.set_cons_succ]
                exact wpAnyH_at (L0_6_7 _ B6 wv.heap.size (Ext.trans XE (Ext.alloc wv (.cells [.bool false, .slice none 0 0, .slice none 0 0].toArray 32))) (r6.out.ext (Ext.alloc wv (.cells [.bool false, .slice none 0 0, .slice none 0 0].toArray 32))) s6 (Rt.new wv [.bool false, .slice none 0 0, .slice none 0 0] 32) (Below.size XE) (Nat.ne_of_lt r6.out.lt)) (by kernel_rfl) (by kernel_rfl) (by kernel_rfl)
              · skip
                go_simp
                refine hK.out _ _ (KP.out _ (Ext.trans XE (Ext.alloc _ _))) (fun _ => ?_)
                clear hK K
                try simp only [Act.put, List.getElem_toArray, List.getElem_cons_succ, List.getElem_cons_zero, List.setIfInBounds_toArray, List.set_cons_zero, List.set_cons_succ]
                exact wpAnyH_at (L0_6_8 _ B6 wv.heap.size (Ext.trans XE (Ext.alloc wv (.cells [.bool false, .slice none 0 0, .slice none 0 0].toArray 32))) (r6.out.ext (Ext.alloc wv (.cells [.bool false, .slice none 0 0, .slice none 0 0].toArray 32))) s6 (Rt.new wv [.bool false, .slice none 0 0, .slice none 0 0] 32) (Below.size XE) (Nat.ne_of_lt r6.out.lt)) (by kernel_rfl) (by kernel_rfl) (by kernel_rfl)
            have L1_ : ∀ (wv : World) (v1 : Value), Hid (Ext w14 wv) → Hid (OwnQ 163 0 wv v1 q) → wpAnyH Try.prog .any O Q9 SS 8 #[true, true, true, false, true, false, false, false, false, false, false, false] (AA.put (some 82) v1) wv := by
              intro wv v1 hX p1
              have hO1 := hO.out
              have hQ1 := hQ.out
              have hA1 := hA.out
              subst hO1
              subst hQ1
              subst hA1
              have XE := hX.out
              try simp only [Act.put, List.getElem_toArray, List.getElem_cons_succ, List.getElem_cons_zero, List.setIfInBounds_toArray, List.set_cons_zero, List.set_cons_succ]
              refine wpAnyH_ready (rs := [3, 6, 7, 8]) (by kernel_rfl) (by simp) ?_
              refine AllReadyH.cons (o := _) rfl (fun K hK => ?_) (AllReadyH.cons (o := _) rfl (fun K hK => ?_) (AllReadyH.cons (o := _) rfl (fun K hK => ?_) (AllReadyH.cons (o := _) rfl (fun K hK => ?_) AllReadyH.nil)))
              · skip
                go_simp
                go_at_call 18
                refine (HOF.out _ _ (HV1.out.ext (Ext.trans b014 XE))).mono ?_
                rintro e wn ⟨vn, rfl, bn, on⟩
                go_wp2_with fail
                refine hK.out _ _ (KP.out _ (Ext.trans XE bn)) (fun _ => ?_)
                clear hK K
                try simp only [Act.put, List.getElem_toArray, List.getElem_cons_succ, List.getElem_cons_zero, List.setIfInBounds_toArray, List.set_cons_zero, List.set_cons_succ]
                exact wpAnyH_at (L2_ wn v1 vn (Ext.trans XE bn) (p1.out.ext bn) (on)) (by kernel_rfl) (by kernel_rfl) (by kernel_rfl)
              · skip
                go_simp
                refine hK.out _ _ (KP.out _ (Ext.trans XE (Ext.alloc _ _))) (fun _ => ?_)
                clear hK K
                try simp only [Act.put, List.getElem_toArray, List.getElem_cons_succ, List.getElem_cons_zero, List.setIfInBounds_toArray, List.set_cons_zero, List.set_cons_succ]
                exact wpAnyH_at (L1_6 _ v1 wv.heap.size (Ext.trans XE (Ext.alloc wv (.cells [.bool false, .slice none 0 0, .slice none 0 0].toArray 32))) (p1.out.ext (Ext.alloc wv (.cells [.bool false, .slice none 0 0, .slice none 0 0].toArray 32))) (Rt.new wv [.bool false, .slice none 0 0, .slice none 0 0] 32) (Below.size XE)) (by kernel_rfl) (by kernel_rfl) (by kernel_rfl)
              · skip
                go_simp
                refine hK.out _ _ (KP.out _ (Ext.trans XE (Ext.alloc _ _))) (fun _ => ?_)
                clear hK K
                try simp only [Act.put, List.getElem_toArray, List.getElem_cons_succ, List.getElem_cons_zero, List.setIfInBounds_toArray, List.set_cons_zero, List.set_cons_succ]
                exact wpAnyH_at (L1_7 _ v1 wv.heap.size (Ext.trans XE (Ext.alloc wv (.cells [.bool false, .slice none 0 0, .slice none 0 0].toArray 32))) (p1.out.ext (Ext.alloc wv (.cells [.bool false, .slice none 0 0, .slice none 0 0].toArray 32))) (Rt.new wv [.bool false, .slice none 0 0, .slice none 0 0] 32) (Below.size XE)) (by kernel_rfl) (by kernel_rfl) (by kernel_rfl)
              · skip
                go_simp
                refine hK.out _ _ (KP.out _ (Ext.trans XE (Ext.alloc _ _))) (fun _ => ?_)
                clear hK K
                try simp only [Act.put, List.getElem_toArray, List.getElem_cons_succ, List.getElem_cons_zero, List.setIfInBounds_toArray, List.set_cons_zero, List.set_cons_succ]
                exact wpAnyH_at (L1_8 _ v1 wv.heap.size (Ext.trans XE (Ext.alloc wv (.cells [.bool false, .slice none 0 0, .slice none 0 0].toArray 32))) (p1.out.ext (Ext.alloc wv (.cells [.bool false, .slice none 0 0, .slice none 0 0].toArray 32))) (Rt.new wv [.bool false, .slice none 0 0, .slice none 0 0] 32) (Below.size XE)) (by kernel_rfl) (by kernel_rfl) (by kernel_rfl)
            have L0_ : ∀ (wv : World), Hid (Ext w14 wv) → wpAnyH Try.prog .any O Q9 SS 9 #[true, false, true, false, true, false, false, false, false, false, false, false] AA wv := by
              intro wv hX
              have hO1 := hO.out
              have hQ1 := hQ.out
              have hA1 := hA.out
              subst hO1
              subst hQ1
              subst hA1
              have XE := hX.out
              try simp only [Act.put, List.getElem_toArray, List.getElem_cons_succ, List.getElem_cons_zero, List.setIfInBounds_toArray, List.set_cons_zero, List.set_cons_succ]
              refine wpAnyH_ready (rs := [1, 6, 7, 8]) (by kernel_rfl) (by simp) ?_
              refine AllReadyH.cons (o := _) rfl (fun K hK => ?_) (AllReadyH.cons (o := _) rfl (fun K hK => ?_) (AllReadyH.cons (o := _) rfl (fun K hK => ?_) (AllReadyH.cons (o := _) rfl (fun K hK => ?_) AllReadyH.nil)))
              · skip
                go_simp
                go_at_call 18
                refine (HOF.out _ _ (HV1.out.ext (Ext.trans b014 XE))).mono ?_
                rintro e wn ⟨vn, rfl, bn, on⟩
                go_wp2_with fail
                refine hK.out _ _ (KP.out _ (Ext.trans XE bn)) (fun _ => ?_)
                clear hK K
                try simp only [Act.put, List.getElem_toArray, List.getElem_cons_succ, List.getElem_cons_zero, List.setIfInBounds_toArray, List.set_cons_zero, List.set_cons_succ]
                exact wpAnyH_at (L1_ wn vn (Ext.trans XE bn) (on)) (by kernel_rfl) (by kernel_rfl) (by kernel_rfl)
              · skip
                go_simp
                refine hK.out _ _ (KP.out _ (Ext.trans XE (Ext.alloc _ _))) (fun _ => ?_)
                clear hK K
                try simp only [Act.put, List.getElem_toArray, List.getElem_cons_succ, List.getElem_cons_zero, List.setIfInBounds_toArray, List.set_cons_zero, List.set_cons_succ]
                exact wpAnyH_at (L0_6 _ wv.heap.size (Ext.trans XE (Ext.alloc wv (.cells [.bool false, .slice none 0 0, .slice none 0 0].toArray 32))) (Rt.new wv [.bool false, .slice none 0 0, .slice none 0 0] 32) (Below.size XE)) (by kernel_rfl) (by kernel_rfl) (by kernel_rfl)
              · skip
                go_simp
                refine hK.out _ _ (KP.out _ (Ext.trans XE (Ext.alloc _ _))) (fun _ => ?_)
                clear hK K
                try simp only [Act.put, List.getElem_toArray, List.getElem_cons_succ, List.getElem_cons_zero, List.setIfInBounds_toArray, List.set_cons_zero, List.set_cons_succ]
                exact wpAnyH_at (L0_7 _ wv.heap.size (Ext.trans XE (Ext.alloc wv (.cells [.bool false, .slice none 0 0, .slice none 0 0].toArray 32))) (Rt.new wv [.bool false, .slice none 0 0, .slice none 0 0] 32) (Below.size XE)) (by kernel_rfl) (by kernel_rfl) (by kernel_rfl)
              · skip
                go_simp
                refine hK.out _ _ (KP.out _ (Ext.trans XE (Ext.alloc _ _))) (fun _ => ?_)
                clear hK K
                try simp only [Act.put, List.getElem_toArray, List.getElem_cons_succ, List.getElem_cons_zero, List.setIfInBounds_toArray, List.set_cons_zero, List.set_cons_succ]
                exact wpAnyH_at (L0_8 _ wv.heap.size (Ext.trans XE (Ext.alloc wv (.cells [.bool false, .slice none 0 0, .slice none 0 0].toArray 32))) (Rt.new wv [.bool false, .slice none 0 0, .slice none 0 0] 32) (Below.size XE)) (by kernel_rfl) (by kernel_rfl) (by kernel_rfl)
            have hO1 := hO.out
            have hQ1 := hQ.out
            have hA1 := hA.out
            subst hO1
            subst hQ1
            subst hA1
            have hS1 := hSS.out
            subst hS1
            exact wpAnyH_at (L0_ w14.drew (drew_ext w14)) (by kernel_rfl) (by kernel_rfl) (by kernel_rfl)
        case rest =>
          focus
            obtain ⟨B1, B2, B3, rfl, rfl, rfl, b15, HNE, HB⟩ := hcut
            generalize wc = w15 at *
            have HLZ : Hid ((L.zip M).length = L.length) := by show _ = _; rw [List.length_zip]; have := HEQ.out; omega
            have hL34 : L.length ≤ 34 := NL.out
            go_wp2_with fail
            go_loopw [89] (fun i wr => ∃ (k : Nat) (s : Rat), i = .int .i64 k ∧ k ≤ L.length ∧ Ext w14 wr ∧ Hid (B1 < wr.heap.size ∧ B2 < wr.heap.size ∧ B3 < wr.heap.size) ∧ Hid (Bs wr [(B1, (wfold ((L.zip M).take k) (q, q)).1), (B2, (wfold ((L.zip M).take k) (q, q)).2), (B3, s)]) ∧ Hid ((wfold ((L.zip M).take k) (q, q)).1 ≤ s ∧ s ≤ (wfold ((L.zip M).take k) (q, q)).2) ∧ Hid (Sz (8 + 17 * k) s)) (fun i _ => L.length - (intOf i).toNat)
            case atStart => exact ⟨0, q, rfl, Nat.zero_le _, b15, ⟨(HB.out.at B1 q (by simp)).lt, (HB.out.at B2 q (by simp)).lt, (HB.out.at B3 q (by simp)).lt⟩, HB, ⟨Rat.le_refl, Rat.le_refl⟩, SQ⟩
            case round =>
              obtain ⟨k, s, rfl, hk, hx, hLT, hBS, hS, hZS⟩ := hrel
              generalize wr = w16 at *
              have b16 := hx
              by_cases hlt : k < L.length
              · have hltm : k < M.length := by have := HEQ.out; omega
                obtain ⟨b, off, cs, rfl, hcl, hT, hc⟩ := RdRow.at RL.out (by decide) k hlt
                obtain ⟨b', off', cs', rfl, hcl', hT', hc'⟩ := RdRow.at RM.out (by decide) k hltm
                obtain ⟨p0, p1, p2, rfl⟩ : ∃ p0 p1 p2, cs = [p0, p1, p2] := by obtain ⟨a, c, b, d, rfl⟩ := cells_Q (OwnQ.rd hT); exact ⟨_, _, _, rfl⟩
                obtain ⟨y0, y1, y2, y3, y4, y5, rfl, -, -⟩ := cells_D (OwnD.rd hT')
                have hz : k < (L.zip M).length := by rw [HLZ.out]; exact hlt
                have HK := Lib.hid (wfold_take hz (q, q))
                have hzk : (L.zip M)[k] = (L[k], M[k]) := List.getElem_zip
                rw [hzk] at HK
                obtain ⟨r1, r2⟩ := wfold_sz ((L.zip M).take k) (q, q) 8 (fun z hz => ⟨SL.out z.1 (List.of_mem_zip (List.mem_of_mem_take hz)).1, SM.out z.2 (List.of_mem_zip (List.mem_of_mem_take hz)).2⟩) ⟨SQ.out, SQ.out⟩
                have hle : 8 + 17 * ((L.zip M).take k).length ≤ 1000 := by rw [List.length_take]; have := NL.out; omega
                have SF := Lib.hid (And.intro (r1.le hle) (r2.le hle))
                have SS3 : Hid (Sz 1000 s) := hZS.out.le (by have := NL.out; omega)
                have S1 := Lib.hid (SL.out _ (List.getElem_mem hlt))
                have S2 := Lib.hid (SM.out _ (List.getElem_mem hltm))
                have KL : Hid (Bo w14 b (off + k * 3) [p0, p1, p2]) := Bo.of hc
                have KM : Hid (Bo w14 b' (off' + k * 6) [y0, y1, y2, y3, y4, y5]) := Bo.of hc'
                have QL : Hid (OwnQ 163 0 w14 (.agg #[p0, p1, p2]) L[k]) := hT
                have QM : Hid (OwnD 163 0 w14 (.agg #[y0, y1, y2, y3, y4, y5]) M[k].1 M[k].2) := hT'
                generalize wfold ((L.zip M).take k) (q, q) = f at *
                generalize L[k] = p at *
                generalize M[k] = y at *
                clear hT hT' hc hc' hcl hcl' hzk r1 r2
                obtain ⟨e0, e1, e2, e3, e4, e5⟩ := (Bo.ext KM.out b16).c6
                go_wp2_with fail
                refine (scheck_any (QM.out.rd.ext b16) (S2.out.1.le (by decide)) (S2.out.2.le (by decide))).mono ?_
                rintro e w17 ⟨_, rfl, b17, rfl⟩
                clear e0 e1 e2 e3 e4 e5
                by_cases hck : y.1 ≤ y.2
                · have hd : decide ((y.1 - y.2).num.sign ≤ 0) = true := decide_eq_true (sign_le.2 hck)
                  have HCK := Lib.hid hck
                  clear hck
                  rw [hd]
                  clear hd
                  obtain ⟨z0, d1, n1, g1, d2, n2, g2, z3, d4, n4, g4, d5, n5, g5, hsh, -⟩ := RdD.op QM.out.rd
                  simp only [Value.agg.injEq, Array.mk.injEq, List.cons.injEq, and_true] at hsh
                  obtain ⟨rfl, rfl, rfl, rfl, rfl, rfl⟩ := hsh
                  have QM1 : Hid (OwnQ 163 0 w14 (.agg #[.bool z0, .slice d1 n1 g1, .slice d2 n2 g2]) y.1) := OwnD.fstQ QM.out
                  have QM2 : Hid (OwnQ 163 0 w14 (.agg #[.bool z3, .slice d4 n4 g4, .slice d5 n5 g5]) y.2) := OwnD.sndQ QM.out
                  obtain ⟨w18, hw18, b18, -, -, z18⟩ := bx1 w17 [.bool z0, .slice d1 n1 g1, .slice d2 n2 g2] 32
                  have HW := Lib.hid hw18
                  have HV : Hid (Bq w18 w17.heap.size y.1) := by rw [hw18]; exact Bq.new (QM1.out.ext (Ext.trans b16 b17))
                  have Z18 := Lib.hid z18
                  obtain ⟨e0, e1, e2, e3, e4, e5⟩ := (Bo.ext KM.out (Ext.trans b16 b17)).c6
                  clear hw18 z18
                  go_upto_region 15 with (fail)
                  rw [← HW.out]
                  clear HW e0 e1 e2 e3 e4 e5
                  generalize Value.bool z0 = y0 at *
                  generalize Value.slice d1 n1 g1 = y1 at *
                  generalize Value.slice d2 n2 g2 = y2 at *
                  generalize Value.bool z3 = y3 at *
                  generalize Value.slice d4 n4 g4 = y4 at *
                  generalize Value.slice d5 n5 g5 = y5 at *
                  have b1418 := Ext.trans b16 (Ext.trans b17 b18)
                  have N18 : Hid (B1 < w17.heap.size ∧ B2 < w17.heap.size ∧ B3 < w17.heap.size ∧ w14.heap.size ≤ w17.heap.size ∧ w17.heap.size < w18.heap.size) := by
                    have h1 := hLT.out
                    have h2 := Below.size b17
                    have h3 := Below.size b16
                    have h4 := Z18.out
                    exact ⟨by omega, by omega, by omega, by omega, by omega⟩
                  have HB18 : Hid (Bs w18 [(w17.heap.size, y.1), (B1, f.1), (B2, f.2), (B3, s)]) := Bs.cons HV.out (hBS.out.ext (Ext.trans b17 b18))
                  clear hBS HV hLT Z18
                  generalize w17.heap.size = V at *
                  go_cut [117] (fun s117 wx => ∃ (bl : Bool), s117 = .bool bl ∧ Ext w18 wx ∧ Hid (bl = true → ∃ h : k < P.length, y.1 ≤ P[k] ∧ P[k] ≤ y.2))
                  case first =>
                    focus
                      have CM := Lib.hid (Bo.ext KM.out b1418)
                      by_cases hp : k < P.length
                      · obtain ⟨bp, offp, cs, rfl, hcl, hT, hc⟩ := RdRow.at RP.out (by decide) k hp
                        obtain ⟨r0, r1, r2, rfl⟩ : ∃ p0 p1 p2, cs = [p0, p1, p2] := by obtain ⟨a, c, b, d, rfl⟩ := cells_Q (OwnQ.rd hT); exact ⟨_, _, _, rfl⟩
                        have CP : Hid (Bo w18 bp (offp + k * 3) [r0, r1, r2]) := Bo.ext (Bo.of hc) b1418
                        have QP : Hid (RdQ w18 (.agg #[r0, r1, r2]) P[k]) := (OwnQ.rd hT).ext b1418
                        have S4 := Lib.hid (SP.out _ (List.getElem_mem hp))
                        have HF : Hid ((decide ((y.1 - P[k]).num.sign ≤ 0) && decide ((P[k] - y.2).num.sign ≤ 0)) = true → ∃ h : k < P.length, y.1 ≤ P[k] ∧ P[k] ≤ y.2) := fun h => by
                          simp only [Bool.and_eq_true, decide_eq_true_eq] at h
                          exact ⟨hp, sign_le.1 h.1, sign_le.1 h.2⟩
                        have QY := Lib.hid (QM.out.rd.ext b1418)
                        have HHS : Hid (∀ w va vb, RdD w va y.1 y.2 → RdQ w vb P[k] → Calls Try.prog 27 #[va, vb] w (Gives w fun v' _ => v' = .bool (decide ((y.1 - P[k]).num.sign ≤ 0) && decide ((P[k] - y.2).num.sign ≤ 0)))) := fun w va vb h1 h2 => shas_any h1 h2 (S2.out.1.le (by decide)) (S2.out.2.le (by decide)) (S4.out.le (by decide))
                        generalize (decide ((y.1 - P[k]).num.sign ≤ 0) && decide ((P[k] - y.2).num.sign ≤ 0)) = bl at *
                        clear hT hc hcl
                        have b19 := drew_ext w18
                        have XE := b19
                        refine wp_region_noPanic ?_
                        refine wp_region_held_drew (S := fun w' => (w'.cell? ⟨b', off' + k * 6, none⟩ = some (y0) ∧ w'.cell? ⟨b', off' + k * 6 + 1, none⟩ = some (y1) ∧ w'.cell? ⟨b', off' + k * 6 + 2, none⟩ = some (y2) ∧ w'.cell? ⟨b', off' + k * 6 + 3, none⟩ = some (y3) ∧ w'.cell? ⟨b', off' + k * 6 + 4, none⟩ = some (y4) ∧ w'.cell? ⟨b', off' + k * 6 + 5, none⟩ = some (y5)) ∧ (w'.cell? ⟨bp, offp + k * 3, none⟩ = some (r0) ∧ w'.cell? ⟨bp, offp + k * 3 + 1, none⟩ = some (r1) ∧ w'.cell? ⟨bp, offp + k * 3 + 2, none⟩ = some (r2))) (by kernel_rfl) (⟨(CM.out.ext XE).c6, (CP.out.ext XE).c3⟩) (fun hHeld => ?_)
                        refine wpAnyH_take (i := 0) (v := ?_) rfl (by kernel_rfl) (by kernel_rfl) (by kernel_rfl) (fun _ _ _ h => h) (Or.inl ⟨by rfl, fun w0 hSw => ?_⟩) hHeld ?_
                        rotate_left
                        · (try dsimp only at hSw)
                          go_simp
                          try with_reducible rfl
                        simp only [Act.put, List.getElem_toArray, List.getElem_cons_succ, List.getElem_cons_zero, List.setIfInBounds_toArray, List.set_cons_zero, List.set_cons_succ]
                        refine wpAnyH_take (i := 1) (v := ?_) rfl (by kernel_rfl) (by kernel_rfl) (by kernel_rfl) (fun _ _ _ h => h) (Or.inl ⟨by rfl, fun w0 hSw => ?_⟩) hHeld ?_
                        rotate_left
                        · (try dsimp only at hSw)
                          go_simp
                          try with_reducible rfl
                        simp only [Act.put, List.getElem_toArray, List.getElem_cons_succ, List.getElem_cons_zero, List.setIfInBounds_toArray, List.set_cons_zero, List.set_cons_succ]
                        refine wpAnyH_take (i := 2) (v := ?_) rfl (by kernel_rfl) (by kernel_rfl) (by kernel_rfl) (fun _ _ _ h => h) (Or.inl ⟨by rfl, fun w0 hSw => ?_⟩) hHeld ?_
                        rotate_left
                        · (try dsimp only at hSw)
                          go_simp
                          try with_reducible rfl
                        simp only [Act.put, List.getElem_toArray, List.getElem_cons_succ, List.getElem_cons_zero, List.setIfInBounds_toArray, List.set_cons_zero, List.set_cons_succ]
                        refine wpAnyH_take (i := 3) (v := ?_) rfl (by kernel_rfl) (by kernel_rfl) (by kernel_rfl) (fun _ _ _ h => h) (Or.inl ⟨by rfl, fun w0 hSw => ?_⟩) hHeld ?_
                        rotate_left
                        · (try dsimp only at hSw)
                          go_simp
                          try with_reducible rfl
                        simp only [Act.put, List.getElem_toArray, List.getElem_cons_succ, List.getElem_cons_zero, List.setIfInBounds_toArray, List.set_cons_zero, List.set_cons_succ]
                        refine wpAnyH_take (i := 4) (v := ?_) rfl (by kernel_rfl) (by kernel_rfl) (by kernel_rfl) (fun _ _ _ h => h) (Or.inl ⟨by rfl, fun w0 hSw => ?_⟩) hHeld ?_
                        rotate_left
                        · (try dsimp only at hSw)
                          go_simp
                          try with_reducible rfl
                        simp only [Act.put, List.getElem_toArray, List.getElem_cons_succ, List.getElem_cons_zero, List.setIfInBounds_toArray, List.set_cons_zero, List.set_cons_succ]
                        refine wpAnyH_take (i := 5) (v := ?_) rfl (by kernel_rfl) (by kernel_rfl) (by kernel_rfl) (fun _ _ _ h => h) (Or.inl ⟨by rfl, fun w0 hSw => ?_⟩) hHeld ?_
                        rotate_left
                        · (try dsimp only at hSw)
                          go_simp
                          try with_reducible rfl
                        simp only [Act.put, List.getElem_toArray, List.getElem_cons_succ, List.getElem_cons_zero, List.setIfInBounds_toArray, List.set_cons_zero, List.set_cons_succ]
                        refine wpAnyH_take (i := 6) (v := ?_) rfl (by kernel_rfl) (by kernel_rfl) (by kernel_rfl) (fun _ _ _ h => h) (Or.inl ⟨by rfl, fun w0 hSw => ?_⟩) hHeld ?_
                        rotate_left
                        · (try dsimp only at hSw)
                          go_simp
                          try with_reducible rfl
                        simp only [Act.put, List.getElem_toArray, List.getElem_cons_succ, List.getElem_cons_zero, List.setIfInBounds_toArray, List.set_cons_zero, List.set_cons_succ]
                        refine wpAnyH_take (i := 7) (v := ?_) rfl (by kernel_rfl) (by kernel_rfl) (by kernel_rfl) (fun _ _ _ h => h) (Or.inl ⟨by rfl, fun w0 hSw => ?_⟩) hHeld ?_
                        rotate_left
                        · (try dsimp only at hSw)
                          go_simp
                          try with_reducible rfl
                        simp only [Act.put, List.getElem_toArray, List.getElem_cons_succ, List.getElem_cons_zero, List.setIfInBounds_toArray, List.set_cons_zero, List.set_cons_succ]
                        refine wpAnyH_take (i := 8) (v := ?_) rfl (by kernel_rfl) (by kernel_rfl) (by kernel_rfl) (fun _ _ _ h => h) (Or.inl ⟨by rfl, fun w0 hSw => ?_⟩) hHeld ?_
                        rotate_left
                        · (try dsimp only at hSw)
                          go_simp
                          try with_reducible rfl
                        simp only [Act.put, List.getElem_toArray, List.getElem_cons_succ, List.getElem_cons_zero, List.setIfInBounds_toArray, List.set_cons_zero, List.set_cons_succ]
                        refine wpAnyH_take (i := 9) (v := ?_) rfl (by kernel_rfl) (by kernel_rfl) (by kernel_rfl) (fun _ _ _ h => h) (Or.inl ⟨by rfl, fun w0 hSw => ?_⟩) hHeld ?_
                        rotate_left
                        · (try dsimp only at hSw)
                          go_simp
                          try with_reducible rfl
                        simp only [Act.put, List.getElem_toArray, List.getElem_cons_succ, List.getElem_cons_zero, List.setIfInBounds_toArray, List.set_cons_zero, List.set_cons_succ]
                        refine wpAnyH_take (i := 10) (v := ?_) rfl (by kernel_rfl) (by kernel_rfl) (by kernel_rfl) (fun _ _ _ h => h) (Or.inl ⟨by rfl, fun w0 hSw => ?_⟩) hHeld ?_
                        rotate_left
                        · (try dsimp only at hSw)
                          go_simp
                          try with_reducible rfl
                        simp only [Act.put, List.getElem_toArray, List.getElem_cons_succ, List.getElem_cons_zero, List.setIfInBounds_toArray, List.set_cons_zero, List.set_cons_succ]
                        refine wpAnyH_take (i := 11) (v := ?_) rfl (by kernel_rfl) (by kernel_rfl) (by kernel_rfl) (fun _ _ _ h => h) (Or.inl ⟨by rfl, fun w0 hSw => ?_⟩) hHeld ?_
                        rotate_left
                        · (try dsimp only at hSw)
                          go_simp
                          try with_reducible rfl
                        simp only [Act.put, List.getElem_toArray, List.getElem_cons_succ, List.getElem_cons_zero, List.setIfInBounds_toArray, List.set_cons_zero, List.set_cons_succ]
                        refine wpAnyH_take (i := 12) (v := ?_) rfl (by kernel_rfl) (by kernel_rfl) (by kernel_rfl) (fun _ _ _ h => h) (Or.inl ⟨by rfl, fun w0 hSw => ?_⟩) hHeld ?_
                        rotate_left
                        · (try dsimp only at hSw)
                          go_simp
                          try with_reducible rfl
                        simp only [Act.put, List.getElem_toArray, List.getElem_cons_succ, List.getElem_cons_zero, List.setIfInBounds_toArray, List.set_cons_zero, List.set_cons_succ]
                        refine wpAnyH_ready (rs := [13]) (by kernel_rfl) (by simp) ?_
                        refine AllReadyH.cons (o := _) rfl (fun K hK => ?_) AllReadyH.nil
                        go_simp
                        go_at_call 27; refine (HHS.out _ _ _ (QY.out.ext XE) (QP.out.ext XE)).mono ?_; rintro e w20 ⟨_, rfl, b20, rfl⟩; (first | have XE := Ext.trans XE b20 | have XE := Ext.trans (Ext.trans XE (Ext.alloc _ _)) b20)
                        go_wp2_with fail
                        refine hK.out _ _ (⟨(CM.out.ext XE).c6, (CP.out.ext XE).c3⟩) (fun hHeld => ?_)
                        clear hK K
                        try simp only [Act.put, List.getElem_toArray, List.getElem_cons_succ, List.getElem_cons_zero, List.setIfInBounds_toArray, List.set_cons_zero, List.set_cons_succ]
                        refine wpAnyH_take (i := 14) (v := ?_) rfl (by kernel_rfl) (by kernel_rfl) (by kernel_rfl) (fun _ _ _ h => h) (Or.inl ⟨by rfl, fun w0 hSw => ?_⟩) hHeld ?_
                        rotate_left
                        · (try dsimp only at hSw)
                          go_simp
                          try with_reducible rfl
                        simp only [Act.put, List.getElem_toArray, List.getElem_cons_succ, List.getElem_cons_zero, List.setIfInBounds_toArray, List.set_cons_zero, List.set_cons_succ]
                        refine wpAnyH_done (by kernel_rfl) ?_ _
                        refine NoPanic.normal ?_
                        go_wp2_with fail
                        go_meet
                        exact ⟨_, rfl, XE, HF⟩
                      · skip
                        have b19 := drew_ext w18
                        have XE := b19
                        refine wp_region_noPanic ?_
                        refine wp_region_held_drew (S := fun w' => w'.cell? ⟨b', off' + k * 6, none⟩ = some (y0) ∧ w'.cell? ⟨b', off' + k * 6 + 1, none⟩ = some (y1) ∧ w'.cell? ⟨b', off' + k * 6 + 2, none⟩ = some (y2) ∧ w'.cell? ⟨b', off' + k * 6 + 3, none⟩ = some (y3) ∧ w'.cell? ⟨b', off' + k * 6 + 4, none⟩ = some (y4) ∧ w'.cell? ⟨b', off' + k * 6 + 5, none⟩ = some (y5)) (by kernel_rfl) ((CM.out.ext XE).c6) (fun hHeld => ?_)
                        refine wpAnyH_take (i := 0) (v := ?_) rfl (by kernel_rfl) (by kernel_rfl) (by kernel_rfl) (fun _ _ _ h => h) (Or.inl ⟨by rfl, fun w0 hSw => ?_⟩) hHeld ?_
                        rotate_left
                        · (try dsimp only at hSw)
                          go_simp
                          try with_reducible rfl
                        simp only [Act.put, List.getElem_toArray, List.getElem_cons_succ, List.getElem_cons_zero, List.setIfInBounds_toArray, List.set_cons_zero, List.set_cons_succ]
                        refine wpAnyH_take (i := 1) (v := ?_) rfl (by kernel_rfl) (by kernel_rfl) (by kernel_rfl) (fun _ _ _ h => h) (Or.inl ⟨by rfl, fun w0 hSw => ?_⟩) hHeld ?_
                        rotate_left
                        · (try dsimp only at hSw)
                          go_simp
                          try with_reducible rfl
                        simp only [Act.put, List.getElem_toArray, List.getElem_cons_succ, List.getElem_cons_zero, List.setIfInBounds_toArray, List.set_cons_zero, List.set_cons_succ]
                        refine wpAnyH_take (i := 2) (v := ?_) rfl (by kernel_rfl) (by kernel_rfl) (by kernel_rfl) (fun _ _ _ h => h) (Or.inl ⟨by rfl, fun w0 hSw => ?_⟩) hHeld ?_
                        rotate_left
                        · (try dsimp only at hSw)
                          go_simp
                          try with_reducible rfl
                        simp only [Act.put, List.getElem_toArray, List.getElem_cons_succ, List.getElem_cons_zero, List.setIfInBounds_toArray, List.set_cons_zero, List.set_cons_succ]
                        refine wpAnyH_take (i := 3) (v := ?_) rfl (by kernel_rfl) (by kernel_rfl) (by kernel_rfl) (fun _ _ _ h => h) (Or.inl ⟨by rfl, fun w0 hSw => ?_⟩) hHeld ?_
                        rotate_left
                        · (try dsimp only at hSw)
                          go_simp
                          try with_reducible rfl
                        simp only [Act.put, List.getElem_toArray, List.getElem_cons_succ, List.getElem_cons_zero, List.setIfInBounds_toArray, List.set_cons_zero, List.set_cons_succ]
                        refine wpAnyH_take (i := 4) (v := ?_) rfl (by kernel_rfl) (by kernel_rfl) (by kernel_rfl) (fun _ _ _ h => h) (Or.inl ⟨by rfl, fun w0 hSw => ?_⟩) hHeld ?_
                        rotate_left
                        · (try dsimp only at hSw)
                          go_simp
                          try with_reducible rfl
                        simp only [Act.put, List.getElem_toArray, List.getElem_cons_succ, List.getElem_cons_zero, List.setIfInBounds_toArray, List.set_cons_zero, List.set_cons_succ]
                        refine wpAnyH_take (i := 5) rfl (by kernel_rfl) (by kernel_rfl) (by kernel_rfl) (fun _ _ _ h => h) (Or.inr ⟨by rfl, rfl⟩) hHeld ?_
                        simp only [Act.put, List.getElem_toArray, List.getElem_cons_succ, List.getElem_cons_zero, List.setIfInBounds_toArray, List.set_cons_zero, List.set_cons_succ]
                        refine wpAnyH_take (i := 6) rfl (by kernel_rfl) (by kernel_rfl) (by kernel_rfl) (fun _ _ _ h => h) (Or.inr ⟨by rfl, rfl⟩) hHeld ?_
                        simp only [Act.put, List.getElem_toArray, List.getElem_cons_succ, List.getElem_cons_zero, List.setIfInBounds_toArray, List.set_cons_zero, List.set_cons_succ]
                        refine wpAnyH_take (i := 7) rfl (by kernel_rfl) (by kernel_rfl) (by kernel_rfl) (fun _ _ _ h => h) (Or.inr ⟨by rfl, rfl⟩) hHeld ?_
                        simp only [Act.put, List.getElem_toArray, List.getElem_cons_succ, List.getElem_cons_zero, List.setIfInBounds_toArray, List.set_cons_zero, List.set_cons_succ]
                        refine wpAnyH_take (i := 8) rfl (by kernel_rfl) (by kernel_rfl) (by kernel_rfl) (fun _ _ _ h => h) (Or.inr ⟨by rfl, rfl⟩) hHeld ?_
                        simp only [Act.put, List.getElem_toArray, List.getElem_cons_succ, List.getElem_cons_zero, List.setIfInBounds_toArray, List.set_cons_zero, List.set_cons_succ]
                        refine wpAnyH_take (i := 9) rfl (by kernel_rfl) (by kernel_rfl) (by kernel_rfl) (fun _ _ _ h => h) (Or.inr ⟨by rfl, rfl⟩) hHeld ?_
                        simp only [Act.put, List.getElem_toArray, List.getElem_cons_succ, List.getElem_cons_zero, List.setIfInBounds_toArray, List.set_cons_zero, List.set_cons_succ]
                        refine wpAnyH_take (i := 10) rfl (by kernel_rfl) (by kernel_rfl) (by kernel_rfl) (fun _ _ _ h => h) (Or.inr ⟨by rfl, rfl⟩) hHeld ?_
                        simp only [Act.put, List.getElem_toArray, List.getElem_cons_succ, List.getElem_cons_zero, List.setIfInBounds_toArray, List.set_cons_zero, List.set_cons_succ]
                        refine wpAnyH_take (i := 11) rfl (by kernel_rfl) (by kernel_rfl) (by kernel_rfl) (fun _ _ _ h => h) (Or.inr ⟨by rfl, rfl⟩) hHeld ?_
                        simp only [Act.put, List.getElem_toArray, List.getElem_cons_succ, List.getElem_cons_zero, List.setIfInBounds_toArray, List.set_cons_zero, List.set_cons_succ]
                        refine wpAnyH_take (i := 12) rfl (by kernel_rfl) (by kernel_rfl) (by kernel_rfl) (fun _ _ _ h => h) (Or.inr ⟨by rfl, rfl⟩) hHeld ?_
                        simp only [Act.put, List.getElem_toArray, List.getElem_cons_succ, List.getElem_cons_zero, List.setIfInBounds_toArray, List.set_cons_zero, List.set_cons_succ]
                        refine wpAnyH_take (i := 13) rfl (by kernel_rfl) (by kernel_rfl) (by kernel_rfl) (fun _ _ _ h => h) (Or.inr ⟨by rfl, rfl⟩) hHeld ?_
                        simp only [Act.put, List.getElem_toArray, List.getElem_cons_succ, List.getElem_cons_zero, List.setIfInBounds_toArray, List.set_cons_zero, List.set_cons_succ]
                        refine wpAnyH_take (i := 14) (v := ?_) rfl (by kernel_rfl) (by kernel_rfl) (by kernel_rfl) (fun _ _ _ h => h) (Or.inl ⟨by rfl, fun w0 hSw => ?_⟩) hHeld ?_
                        rotate_left
                        · (try dsimp only at hSw)
                          go_simp
                          try with_reducible rfl
                        simp only [Act.put, List.getElem_toArray, List.getElem_cons_succ, List.getElem_cons_zero, List.setIfInBounds_toArray, List.set_cons_zero, List.set_cons_succ]
                        refine wpAnyH_done (by kernel_rfl) ?_ _
                        refine NoPanic.normal ?_
                        go_wp2_with fail
                        go_meet
                        exact ⟨_, rfl, XE, fun h => by cases h⟩
                  case rest =>
                    focus
                      obtain ⟨bl, rfl, b19, hbl⟩ := hcut
                      generalize wc = w19 at *
                      have b1419 := Ext.trans b1418 b19
                      have HB19 := Lib.hid (HB18.out.ext b19)
                      have HT19 := Lib.hid (HB19.out.at V y.1 (by simp)).rt
                      go_upto_if 117 with (fail)
                      go_cut [18] (fun s18 wx => ∃ v : Rat, s18 = .pointer (some ⟨V, 0, none⟩) ∧ Ext w14 wx ∧ Hid (V < wx.heap.size) ∧ Hid (Bs wx [(V, v), (B1, f.1), (B2, f.2), (B3, s)]) ∧ Hid (y.1 ≤ v ∧ v ≤ y.2 ∧ Sz 8 v))
                      case first =>
                        focus
                          cases bl with
                          | false =>
                            go_wp2_with fail
                            go_meet
                            exact ⟨_, rfl, b1419, (HB19.out.at V y.1 (by simp)).lt, HB19, ⟨Rat.le_refl, HCK.out, S2.out.1⟩⟩
                          | true =>
                            obtain ⟨hp, hh⟩ := hbl.out rfl
                            have HH := Lib.hid hh
                            obtain ⟨bp, offp, cs, rfl, hcl, hT, hc⟩ := RdRow.at RP.out (by decide) k hp
                            obtain ⟨a, c, b2, d2, rfl⟩ := cells_Q (OwnQ.rd hT)
                            obtain ⟨e0, e1, e2⟩ := (Bo.ext (Bo.of hc) b1419 : Bo w19 bp (offp + k * 3) _).c3
                            have QP := Lib.hid (OwnQ.ext hT b1419)
                            obtain ⟨_, _, _, j0, j1, j2, g0, g1, g2⟩ := HT19.out.rm.room3.cells
                            clear hT hc hcl hh
                            go_wp2_with fail
                            go_meet
                            exact ⟨_, rfl, put3_below b1419 (by have := N18.out; omega) _ _ _, World.block_lt_of_cell? _ _ ((HT19.out.putL_at [_, _, _] rfl).1.c3).1, Lib.hid (Bs.put HB19.out HT19.out QP.out [(V, P[k]), (B1, f.1), (B2, f.2), (B3, s)] (by have := N18.out; intro u hu; simp at hu; rcases hu with rfl | rfl | rfl | rfl <;> simp <;> omega)), HH.out.1, HH.out.2, SP.out _ (List.getElem_mem hp)⟩
                      case rest =>
                        focus
                          obtain ⟨v, rfl, b20, hVl, HB20, HV⟩ := hcut
                          generalize wc = w20 at *
                          go_upto_region 17 with (fail)
                          have CM20 := Lib.hid (Bo.ext KM.out b20)
                          have CMl := Lib.hid CM20.out.lt
                          have M1 := Lib.hid (QM1.out.ext b20)
                          have M2 := Lib.hid (QM2.out.ext b20)
                          go_cut [19, 20] (fun s19 s20 wx => ∃ (GA GB : Nat), s19 = .pointer (some ⟨GA, 0, none⟩) ∧ s20 = .pointer (some ⟨GB, 0, none⟩) ∧ Ext w20 wx ∧ Hid (GA ≠ GB ∧ V < GA ∧ V < GB) ∧ Hid (Bs wx [(GA, y.1), (GB, y.2), (V, v), (B1, f.1), (B2, f.2), (B3, s)]))
                          case first =>
                            as_aux_lemma =>
                              obtain ⟨t0, t1, t2, t3, t4, t5, t6, he0, he1, he2⟩ := RdQ.op3 M1.out.rd
                              obtain ⟨t7, t8, t9, t10, t11, t12, t13, he3, he4, he5⟩ := RdQ.op3 M2.out.rd
                              subst he0 he1 he2 he3 he4 he5
                              refine wp_region_noPanic ?_
                              refine wp_region_held_drew (S := fun w' => w'.cell? ⟨b', off' + k * 6, none⟩ = some (.bool t0) ∧ w'.cell? ⟨b', off' + k * 6 + 1, none⟩ = some (.slice t1 t2 t3) ∧ w'.cell? ⟨b', off' + k * 6 + 2, none⟩ = some (.slice t4 t5 t6) ∧ w'.cell? ⟨b', off' + k * 6 + 3, none⟩ = some (.bool t7) ∧ w'.cell? ⟨b', off' + k * 6 + 4, none⟩ = some (.slice t8 t9 t10) ∧ w'.cell? ⟨b', off' + k * 6 + 5, none⟩ = some (.slice t11 t12 t13)) (by kernel_rfl) ((CM20.out.ext (drew_ext w20)).c6) (fun hHeld => ?_)
                              refine wpAnyH_take (i := 0) (v := ?_) rfl (by kernel_rfl) (by kernel_rfl) (by kernel_rfl) (fun _ _ _ h => h) (Or.inl ⟨by rfl, fun w0 hSw => ?_⟩) hHeld ?_
                              rotate_left
                              · (try dsimp only at hSw)
                                go_simp
                                try with_reducible rfl
                              simp only [Act.put, List.getElem_toArray, List.getElem_cons_succ, List.getElem_cons_zero, List.setIfInBounds_toArray, List.set_cons_zero, List.set_cons_succ]
                              refine wpAnyH_take (i := 1) (v := ?_) rfl (by kernel_rfl) (by kernel_rfl) (by kernel_rfl) (fun _ _ _ h => h) (Or.inl ⟨by rfl, fun w0 hSw => ?_⟩) hHeld ?_
                              rotate_left
                              · (try dsimp only at hSw)
                                go_simp
                                try with_reducible rfl
                              simp only [Act.put, List.getElem_toArray, List.getElem_cons_succ, List.getElem_cons_zero, List.setIfInBounds_toArray, List.set_cons_zero, List.set_cons_succ]
                              refine wpAnyH_take (i := 5) (v := ?_) rfl (by kernel_rfl) (by kernel_rfl) (by kernel_rfl) (fun _ _ _ h => h) (Or.inl ⟨by rfl, fun w0 hSw => ?_⟩) hHeld ?_
                              rotate_left
                              · (try dsimp only at hSw)
                                go_simp
                                try with_reducible rfl
                              simp only [Act.put, List.getElem_toArray, List.getElem_cons_succ, List.getElem_cons_zero, List.setIfInBounds_toArray, List.set_cons_zero, List.set_cons_succ]
                              refine wpAnyH_take (i := 6) (v := ?_) rfl (by kernel_rfl) (by kernel_rfl) (by kernel_rfl) (fun _ _ _ h => h) (Or.inl ⟨by rfl, fun w0 hSw => ?_⟩) hHeld ?_
                              rotate_left
                              · (try dsimp only at hSw)
                                go_simp
                                try with_reducible rfl
                              simp only [Act.put, List.getElem_toArray, List.getElem_cons_succ, List.getElem_cons_zero, List.setIfInBounds_toArray, List.set_cons_zero, List.set_cons_succ]
                              refine wpAnyH_take (i := 2) (v := ?_) rfl (by kernel_rfl) (by kernel_rfl) (by kernel_rfl) (fun _ _ _ h => h) (Or.inl ⟨by rfl, fun w0 hSw => ?_⟩) hHeld ?_
                              rotate_left
                              · (try dsimp only at hSw)
                                go_simp
                                try with_reducible rfl
                              simp only [Act.put, List.getElem_toArray, List.getElem_cons_succ, List.getElem_cons_zero, List.setIfInBounds_toArray, List.set_cons_zero, List.set_cons_succ]
                              refine wpAnyH_take (i := 7) (v := ?_) rfl (by kernel_rfl) (by kernel_rfl) (by kernel_rfl) (fun _ _ _ h => h) (Or.inl ⟨by rfl, fun w0 hSw => ?_⟩) hHeld ?_
                              rotate_left
                              · (try dsimp only at hSw)
                                go_simp
                                try with_reducible rfl
                              simp only [Act.put, List.getElem_toArray, List.getElem_cons_succ, List.getElem_cons_zero, List.setIfInBounds_toArray, List.set_cons_zero, List.set_cons_succ]
                              refine wpAnyH_take (i := 3) (v := ?_) rfl (by kernel_rfl) (by kernel_rfl) (by kernel_rfl) (fun _ _ _ h => h) (Or.inl ⟨by rfl, fun w0 hSw => ?_⟩) hHeld ?_
                              rotate_left
                              · (try dsimp only at hSw)
                                go_simp
                                try with_reducible rfl
                              simp only [Act.put, List.getElem_toArray, List.getElem_cons_succ, List.getElem_cons_zero, List.setIfInBounds_toArray, List.set_cons_zero, List.set_cons_succ]
                              refine wpAnyH_take (i := 8) (v := ?_) rfl (by kernel_rfl) (by kernel_rfl) (by kernel_rfl) (fun _ _ _ h => h) (Or.inl ⟨by rfl, fun w0 hSw => ?_⟩) hHeld ?_
                              rotate_left
                              · (try dsimp only at hSw)
                                go_simp
                                try with_reducible rfl
                              simp only [Act.put, List.getElem_toArray, List.getElem_cons_succ, List.getElem_cons_zero, List.setIfInBounds_toArray, List.set_cons_zero, List.set_cons_succ]
                              refine wpAnyH_take (i := 4) (v := ?_) rfl (by kernel_rfl) (by kernel_rfl) (by kernel_rfl) (fun _ _ _ h => h) (Or.inl ⟨by rfl, fun w0 hSw => ?_⟩) hHeld ?_
                              rotate_left
                              · (try dsimp only at hSw)
                                go_simp
                                try with_reducible rfl
                              simp only [Act.put, List.getElem_toArray, List.getElem_cons_succ, List.getElem_cons_zero, List.setIfInBounds_toArray, List.set_cons_zero, List.set_cons_succ]
                              refine wpAnyH_take (i := 9) (v := ?_) rfl (by kernel_rfl) (by kernel_rfl) (by kernel_rfl) (fun _ _ _ h => h) (Or.inl ⟨by rfl, fun w0 hSw => ?_⟩) hHeld ?_
                              rotate_left
                              · (try dsimp only at hSw)
                                go_simp
                                try with_reducible rfl
                              simp only [Act.put, List.getElem_toArray, List.getElem_cons_succ, List.getElem_cons_zero, List.setIfInBounds_toArray, List.set_cons_zero, List.set_cons_succ]
                              refine anyH_cap fun O Q9 AA hO hQ hA => ?_
                              obtain ⟨SS, hSS⟩ : ∃ SS : World → Prop, Hid (SS = fun w' => w'.cell? ⟨b', off' + k * 6, none⟩ = some (.bool t0) ∧ w'.cell? ⟨b', off' + k * 6 + 1, none⟩ = some (.slice t1 t2 t3) ∧ w'.cell? ⟨b', off' + k * 6 + 2, none⟩ = some (.slice t4 t5 t6) ∧ w'.cell? ⟨b', off' + k * 6 + 3, none⟩ = some (.bool t7) ∧ w'.cell? ⟨b', off' + k * 6 + 4, none⟩ = some (.slice t8 t9 t10) ∧ w'.cell? ⟨b', off' + k * 6 + 5, none⟩ = some (.slice t11 t12 t13)) := ⟨_, rfl⟩
                              have KP : Hid (∀ wv, Ext w20 wv → SS wv) := fun wv XE => by rw [hSS.out]; exact (CM20.out.ext XE).c6
                              have L0_10_11 : ∀ (wv : World) (B10 B11 : Nat), Hid (Ext w20 wv) → Hid (Rt wv B10 3 32) → Hid (w20.heap.size ≤ B10) → Hid (Rt wv B11 3 32) → Hid (w20.heap.size ≤ B11) → Hid (B10 ≠ B11) → wpAnyH Try.prog .any O Q9 SS 2 #[true, true, true, true, true, true, true, true, true, true, true, true, false, false] ((AA.put (some 19) (.pointer (some ⟨B10, 0, none⟩))).put (some 20) (.pointer (some ⟨B11, 0, none⟩))) wv := by
                                intro wv B10 B11 hX r10 s10 r11 s11 ne10_11
                                have hO1 := hO.out
                                have hQ1 := hQ.out
                                have hA1 := hA.out
                                subst hO1
                                subst hQ1
                                subst hA1
                                have XE := hX.out
                                have hHeld := KP.out _ XE
                                have hS1 := hSS.out
                                subst hS1
                                try simp only [Act.put, List.getElem_toArray, List.getElem_cons_succ, List.getElem_cons_zero, List.setIfInBounds_toArray, List.set_cons_zero, List.set_cons_succ]
                                have k0_10 : b' ≠ B10 := by have h1 := s10.out; have hz0 := CMl.out; omega
                                have k0_11 : b' ≠ B11 := by have h1 := s11.out; have hz0 := CMl.out; omega
                                have n10_11 := ne10_11.out
                                have n11_10 := Ne.symm n10_11
                                skip
                                obtain ⟨_, _, _, i10_0, i10_1, i10_2, f10_0, f10_1, f10_2⟩ := r10.out.rm.c3
                                refine wpAnyH_ready (rs := [12]) (by kernel_rfl) (by simp) ?_
                                refine AllReadyH.cons (o := _) rfl (fun K hK => ?_) AllReadyH.nil
                                go_simp
                                refine hK.out _ _ (((((CM20.out.ext XE).set1 k0_10 _ _).set1 k0_10 _ _).set1 k0_10 _ _).c6) (fun hHeld => ?_)
                                clear hK K
                                try simp only [Act.put, List.getElem_toArray, List.getElem_cons_succ, List.getElem_cons_zero, List.setIfInBounds_toArray, List.set_cons_zero, List.set_cons_succ]
                                clear hHeld
                                refine gen_world (P := wpAnyH _ _ _ _ _ _ _ _) _ (fun Wg12 hWg12 => ?_)
                                have CG12_0 : Bo Wg12 (b') (off' + k * 6) [.bool t0, .slice t1 t2 t3, .slice t4 t5 t6, .bool t7, .slice t8 t9 t10, .slice t11 t12 t13] := by rw [hWg12]; exact ((((CM20.out.ext XE).set1 k0_10 _ _).set1 k0_10 _ _).set1 k0_10 _ _)
                                have RG12_11 : Rt Wg12 B11 3 32 := by rw [hWg12]; exact (((r11.out.set1 n11_10 _ _).set1 n11_10 _ _).set1 n11_10 _ _)
                                have hHeld : (fun w' => w'.cell? ⟨b', off' + k * 6, none⟩ = some (.bool t0) ∧ w'.cell? ⟨b', off' + k * 6 + 1, none⟩ = some (.slice t1 t2 t3) ∧ w'.cell? ⟨b', off' + k * 6 + 2, none⟩ = some (.slice t4 t5 t6) ∧ w'.cell? ⟨b', off' + k * 6 + 3, none⟩ = some (.bool t7) ∧ w'.cell? ⟨b', off' + k * 6 + 4, none⟩ = some (.slice t8 t9 t10) ∧ w'.cell? ⟨b', off' + k * 6 + 5, none⟩ = some (.slice t11 t12 t13)) Wg12 := CG12_0.c6
                                have HWg12 := Lib.hid hWg12
                                clear hWg12
                                clear i10_0 f10_0 i10_1 f10_1 i10_2 f10_2
                                obtain ⟨_, _, _, i11_0, i11_1, i11_2, f11_0, f11_1, f11_2⟩ := RG12_11.rm.c3
                                refine wpAnyH_ready (rs := [13]) (by kernel_rfl) (by simp) ?_
                                refine AllReadyH.cons (o := _) rfl (fun K hK => ?_) AllReadyH.nil
                                go_simp
                                refine hK.out _ _ ((((CG12_0.set1 k0_11 _ _).set1 k0_11 _ _).set1 k0_11 _ _).c6) (fun hHeld => ?_)
                                clear hK K
                                try simp only [Act.put, List.getElem_toArray, List.getElem_cons_succ, List.getElem_cons_zero, List.setIfInBounds_toArray, List.set_cons_zero, List.set_cons_succ]
                                refine wpAnyH_done (by kernel_rfl) ?_ _
                                refine NoPanic.normal ?_
                                rw [HWg12.out]
                                go_wp2_with fail
                                go_meet
                                have hv1 := hVl.out
                                have hn := N18.out
                                have hs1 := s10.out
                                have hs2 := s11.out
                                have hne := ne10_11.out
                                refine ⟨B10, B11, rfl, rfl, put3_below (put3_below hX.out s10.out _ _ _) s11.out _ _ _, ⟨hne, by omega, by omega⟩, ?_⟩
                                exact Bs.put (Bs.put (HB20.out.ext XE) r10.out (M1.out.ext XE) [(B10, y.1), (V, v), (B1, f.1), (B2, f.2), (B3, s)] (by intro u hu; simp at hu; rcases hu with rfl | rfl | rfl | rfl | rfl <;> simp <;> omega)) (r11.out.putL (Ne.symm hne) 0 [_, _, _]) ((M2.out.ext XE).putT r10.out (by decide) 0 [_, _, _]) [(B10, y.1), (B11, y.2), (V, v), (B1, f.1), (B2, f.2), (B3, s)] (by intro u hu; simp at hu; rcases hu with rfl | rfl | rfl | rfl | rfl | rfl <;> simp <;> omega)
                              have L0_11 : ∀ (wv : World) (B11 : Nat), Hid (Ext w20 wv) → Hid (Rt wv B11 3 32) → Hid (w20.heap.size ≤ B11) → wpAnyH Try.prog .any O Q9 SS 3 #[true, true, true, true, true, true, true, true, true, true, false, true, false, false] (AA.put (some 20) (.pointer (some ⟨B11, 0, none⟩))) wv := by
                                intro wv B11 hX r11 s11
                                have hO1 := hO.out
                                have hQ1 := hQ.out
                                have hA1 := hA.out
                                subst hO1
                                subst hQ1
                                subst hA1
                                have XE := hX.out
                                try simp only [Act.put, List.getElem_toArray, List.getElem_cons_succ, List.getElem_cons_zero, List.setIfInBounds_toArray, List.set_cons_zero, List.set_cons_succ]
                                refine wpAnyH_ready (rs := [10]) (by kernel_rfl) (by simp) ?_
                                refine AllReadyH.cons (o := _) rfl (fun K hK => ?_) AllReadyH.nil
                                go_simp
                                refine hK.out _ _ (KP.out _ (Ext.trans XE (Ext.alloc _ _))) (fun _ => ?_)
                                clear hK K
                                try simp only [Act.put, List.getElem_toArray, List.getElem_cons_succ, List.getElem_cons_zero, List.setIfInBounds_toArray, List.set_cons_zero, List.set_cons_succ]
                                exact wpAnyH_at (L0_10_11 _ wv.heap.size B11 (Ext.trans XE (Ext.alloc wv (.cells [.bool false, .slice none 0 0, .slice none 0 0].toArray 32))) (Rt.new wv [.bool false, .slice none 0 0, .slice none 0 0] 32) (Below.size XE) (r11.out.ext (Ext.alloc wv (.cells [.bool false, .slice none 0 0, .slice none 0 0].toArray 32))) s11 (Nat.ne_of_gt r11.out.lt)) (by kernel_rfl) (by kernel_rfl) (by kernel_rfl)
                              have L0_10 : ∀ (wv : World) (B10 : Nat), Hid (Ext w20 wv) → Hid (Rt wv B10 3 32) → Hid (w20.heap.size ≤ B10) → wpAnyH Try.prog .any O Q9 SS 3 #[true, true, true, true, true, true, true, true, true, true, true, false, false, false] (AA.put (some 19) (.pointer (some ⟨B10, 0, none⟩))) wv := by
                                intro wv B10 hX r10 s10
                                have hO1 := hO.out
                                have hQ1 := hQ.out
                                have hA1 := hA.out
                                subst hO1
                                subst hQ1
                                subst hA1
                                have XE := hX.out
                                try simp only [Act.put, List.getElem_toArray, List.getElem_cons_succ, List.getElem_cons_zero, List.setIfInBounds_toArray, List.set_cons_zero, List.set_cons_succ]
                                refine wpAnyH_ready (rs := [11]) (by kernel_rfl) (by simp) ?_
                                refine AllReadyH.cons (o := _) rfl (fun K hK => ?_) AllReadyH.nil
                                go_simp
                                refine hK.out _ _ (KP.out _ (Ext.trans XE (Ext.alloc _ _))) (fun _ => ?_)
                                clear hK K
                                try simp only [Act.put, List.getElem_toArray, List.getElem_cons_succ, List.getElem_cons_zero, List.setIfInBounds_toArray, List.set_cons_zero, List.set_cons_succ]
                                exact wpAnyH_at (L0_10_11 _ B10 wv.heap.size (Ext.trans XE (Ext.alloc wv (.cells [.bool false, .slice none 0 0, .slice none 0 0].toArray 32))) (r10.out.ext (Ext.alloc wv (.cells [.bool false, .slice none 0 0, .slice none 0 0].toArray 32))) s10 (Rt.new wv [.bool false, .slice none 0 0, .slice none 0 0] 32) (Below.size XE) (Nat.ne_of_lt r10.out.lt)) (by kernel_rfl) (by kernel_rfl) (by kernel_rfl)
                              have L0_ : ∀ (wv : World), Hid (Ext w20 wv) → wpAnyH Try.prog .any O Q9 SS 4 #[true, true, true, true, true, true, true, true, true, true, false, false, false, false] AA wv := by
                                intro wv hX
                                have hO1 := hO.out
                                have hQ1 := hQ.out
                                have hA1 := hA.out
                                subst hO1
                                subst hQ1
                                subst hA1
                                have XE := hX.out
                                try simp only [Act.put, List.getElem_toArray, List.getElem_cons_succ, List.getElem_cons_zero, List.setIfInBounds_toArray, List.set_cons_zero, List.set_cons_succ]
                                refine wpAnyH_ready (rs := [10, 11]) (by kernel_rfl) (by simp) ?_
                                refine AllReadyH.cons (o := _) rfl (fun K hK => ?_) (AllReadyH.cons (o := _) rfl (fun K hK => ?_) AllReadyH.nil)
                                · skip
                                  go_simp
                                  refine hK.out _ _ (KP.out _ (Ext.trans XE (Ext.alloc _ _))) (fun _ => ?_)
                                  clear hK K
                                  try simp only [Act.put, List.getElem_toArray, List.getElem_cons_succ, List.getElem_cons_zero, List.setIfInBounds_toArray, List.set_cons_zero, List.set_cons_succ]
                                  exact wpAnyH_at (L0_10 _ wv.heap.size (Ext.trans XE (Ext.alloc wv (.cells [.bool false, .slice none 0 0, .slice none 0 0].toArray 32))) (Rt.new wv [.bool false, .slice none 0 0, .slice none 0 0] 32) (Below.size XE)) (by kernel_rfl) (by kernel_rfl) (by kernel_rfl)
                                · skip
                                  go_simp
                                  refine hK.out _ _ (KP.out _ (Ext.trans XE (Ext.alloc _ _))) (fun _ => ?_)
                                  clear hK K
                                  try simp only [Act.put, List.getElem_toArray, List.getElem_cons_succ, List.getElem_cons_zero, List.setIfInBounds_toArray, List.set_cons_zero, List.set_cons_succ]
                                  exact wpAnyH_at (L0_11 _ wv.heap.size (Ext.trans XE (Ext.alloc wv (.cells [.bool false, .slice none 0 0, .slice none 0 0].toArray 32))) (Rt.new wv [.bool false, .slice none 0 0, .slice none 0 0] 32) (Below.size XE)) (by kernel_rfl) (by kernel_rfl) (by kernel_rfl)
                              have hO1 := hO.out
                              have hQ1 := hQ.out
                              have hA1 := hA.out
                              subst hO1
                              subst hQ1
                              subst hA1
                              have hS1 := hSS.out
                              subst hS1
                              exact wpAnyH_at (L0_ w20.drew (drew_ext w20)) (by kernel_rfl) (by kernel_rfl) (by kernel_rfl)
                          case rest =>
                            focus
                              obtain ⟨GA, GB, rfl, rfl, b21, NG, HB21⟩ := hcut
                              generalize wc = w21 at *
                              have b1421 := Ext.trans b20 b21
                              obtain ⟨z0, d1, n1, g1, d2, n2, g2, T1, T2, T3⟩ := (HB21.out.at GA y.1 (by simp)).op
                              obtain ⟨z3, d4, n4, g4, d5, n5, g5, T4, T5, T6⟩ := (HB21.out.at GB y.2 (by simp)).op
                              obtain ⟨e0, e1, e2⟩ := (Bo.ext KL.out b1421).c3
                              obtain ⟨u, hu⟩ : ∃ u, u = p.num.sign := ⟨_, rfl⟩
                              have HSG : Hid (∀ w v, RdQ w v p → Calls Try.prog 20 #[v] w (Gives w fun v' _ => v' = .int .i64 u)) := fun w v h => hu ▸ rsign_any h
                              have HU := Lib.hid hu
                              clear hu
                              go_upto_if 137 with (go_at_call 20; refine (HSG.out _ _ (QL.out.rd.ext b1421)).mono ?_; rintro e w22 ⟨_, rfl, b22, rfl⟩)
                              clear e0 e1 e2
                              go_cut [19] (fun s19 wx => s19 = .pointer (some ⟨GA, 0, none⟩) ∧ Ext w14 wx ∧ Hid (Bs wx [(GA, if p.num.sign < 0 then y.2 else y.1), (GB, if p.num.sign < 0 then y.1 else y.2), (V, v), (B1, f.1), (B2, f.2), (B3, s)]))
                              case first =>
                                focus
                                  by_cases hs : u < 0
                                  · have HS : Hid (p.num.sign < 0) := by show _ < _; rw [← HU.out]; exact hs
                                    have hd : decide (u < 0) = true := decide_eq_true hs
                                    clear hs
                                    rw [hd]
                                    clear hd
                                    obtain ⟨e0, e1, e2⟩ := (T1.out.ext b22).c3
                                    obtain ⟨e3, e4, e5⟩ := (T4.out.ext b22).c3
                                    obtain ⟨_, _, _, -, -, -, i0, i1, i2⟩ := (T2.out.ext b22).rm.c3
                                    obtain ⟨_, _, _, -, -, -, i3, i4, i5⟩ := (T5.out.ext b22).rm.c3
                                    have hne : GA ≠ GB := NG.out.1
                                    go_wp2_with fail
                                    go_meet
                                    refine ⟨rfl, put3_below (put3_below (Ext.trans b1421 b22) (by have h1 := N18.out; have h2 := NG.out; omega) _ _ _) (by have h1 := N18.out; have h2 := NG.out; omega) _ _ _, ?_⟩
                                    rw [if_pos HS.out, if_pos HS.out]
                                    exact Bs.put (Bs.put (HB21.out.ext b22) (T2.out.ext b22) (T6.out.ext b22) [(GA, y.2), (V, v), (B1, f.1), (B2, f.2), (B3, s)] (by have h1 := N18.out; have h2 := NG.out; intro u hu; simp at hu; rcases hu with rfl | rfl | rfl | rfl | rfl <;> simp <;> omega)) ((T5.out.ext b22).putL (Ne.symm hne) 0 [_, _, _]) ((T3.out.ext b22).putT (T2.out.ext b22) (by decide) 0 [_, _, _]) [(GA, y.2), (GB, y.1), (V, v), (B1, f.1), (B2, f.2), (B3, s)] (by have h1 := N18.out; have h2 := NG.out; intro u hu; simp at hu; rcases hu with rfl | rfl | rfl | rfl | rfl | rfl <;> simp <;> omega)
                                  · have HS : Hid (¬ p.num.sign < 0) := by show ¬ _; rw [← HU.out]; exact hs
                                    have hd : decide (u < 0) = false := decide_eq_false hs
                                    clear hs
                                    rw [hd]
                                    clear hd
                                    go_wp2_with fail
                                    go_meet
                                    refine ⟨rfl, Ext.trans b1421 b22, ?_⟩
                                    rw [if_neg (Int.not_lt.2 HS.out), if_neg (Int.not_lt.2 HS.out)]
                                    exact HB21.out.ext b22
                              case rest =>
                                focus
                                  obtain ⟨rfl, b23, HB23⟩ := hcut
                                  generalize wc = w23 at *
                                  have HES := Lib.hid (ends_sgn (p := p) HCK.out)
                                  have HEV := Lib.hid (ends_hold (p := p) HV.out.1 HV.out.2.1)
                                  have S5 : Hid (Sz 8 (if p.num.sign < 0 then y.2 else y.1) ∧ Sz 8 (if p.num.sign < 0 then y.1 else y.2)) := by
                                    by_cases hs : p.num.sign < 0
                                    · rw [if_pos hs, if_pos hs]; exact ⟨S2.out.2, S2.out.1⟩
                                    · rw [if_neg hs, if_neg hs]; exact ⟨S2.out.1, S2.out.2⟩
                                  generalize (if p.num.sign < 0 then y.2 else y.1) = ea at *
                                  generalize (if p.num.sign < 0 then y.1 else y.2) = eb at *
                                  clear T1 T2 T3 T4 T5 T6
                                  go_upto_region 20 with (fail)
                                  go_cut [14] (fun s14 wx => s14 = .pointer (some ⟨B1, 0, none⟩) ∧ Ext w14 wx ∧ Hid (Bs wx [(B1, f.1 + p * ea), (GA, ea), (GB, eb), (V, v), (B2, f.2), (B3, s)]))
                                  case first =>
                                    focus
                                      have HP24 := Lib.hid (HB23.out.at B1 (f.1) (by simp))
                                      have HQ24 := Lib.hid (HB23.out.at GA (ea) (by simp))
                                      obtain ⟨z0, d1, n1, g1, d2, n2, g2, T1, T2, T3⟩ := HP24.out.op
                                      obtain ⟨z3, d4, n4, g4, d5, n5, g5, T4, T5, T6⟩ := HQ24.out.op
                                      have CL24 := Lib.hid (Bo.ext KL.out b23)
                                      have b24 := drew_ext w23
                                      have XE := b24
                                      refine wp_region_noPanic ?_
                                      refine wp_region_last_drew (st := 8) (S := fun w' => (w'.cell? ⟨B1, 0, none⟩ = some (.bool z0) ∧ w'.cell? ⟨B1, 1, none⟩ = some (.slice d1 n1 g1) ∧ w'.cell? ⟨B1, 2, none⟩ = some (.slice d2 n2 g2)) ∧ (w'.cell? ⟨b, off + k * 3, none⟩ = some (p0) ∧ w'.cell? ⟨b, off + k * 3 + 1, none⟩ = some (p1) ∧ w'.cell? ⟨b, off + k * 3 + 2, none⟩ = some (p2)) ∧ (w'.cell? ⟨GA, 0, none⟩ = some (.bool z3) ∧ w'.cell? ⟨GA, 1, none⟩ = some (.slice d4 n4 g4) ∧ w'.cell? ⟨GA, 2, none⟩ = some (.slice d5 n5 g5))) (by kernel_rfl) (⟨(T1.out.ext XE).c3, (CL24.out.ext XE).c3, (T4.out.ext XE).c3⟩) (fun hHeld => ?_)
                                      refine wpAnyL_take (i := 0) (v := ?_) rfl (by kernel_rfl) (by kernel_rfl) (by kernel_rfl) (by kernel_rfl) (fun _ _ _ h => h) (Or.inl ⟨by rfl, fun w0 hSw => ?_⟩) hHeld ?_
                                      rotate_left
                                      · (try dsimp only at hSw)
                                        go_simp
                                        try with_reducible rfl
                                      simp only [Act.put, List.getElem_toArray, List.getElem_cons_succ, List.getElem_cons_zero, List.setIfInBounds_toArray, List.set_cons_zero, List.set_cons_succ]
                                      refine wpAnyL_take (i := 1) (v := ?_) rfl (by kernel_rfl) (by kernel_rfl) (by kernel_rfl) (by kernel_rfl) (fun _ _ _ h => h) (Or.inl ⟨by rfl, fun w0 hSw => ?_⟩) hHeld ?_
                                      rotate_left
                                      · (try dsimp only at hSw)
                                        go_simp
                                        try with_reducible rfl
                                      simp only [Act.put, List.getElem_toArray, List.getElem_cons_succ, List.getElem_cons_zero, List.setIfInBounds_toArray, List.set_cons_zero, List.set_cons_succ]
                                      refine wpAnyL_take (i := 2) (v := ?_) rfl (by kernel_rfl) (by kernel_rfl) (by kernel_rfl) (by kernel_rfl) (fun _ _ _ h => h) (Or.inl ⟨by rfl, fun w0 hSw => ?_⟩) hHeld ?_
                                      rotate_left
                                      · (try dsimp only at hSw)
                                        go_simp
                                        try with_reducible rfl
                                      simp only [Act.put, List.getElem_toArray, List.getElem_cons_succ, List.getElem_cons_zero, List.setIfInBounds_toArray, List.set_cons_zero, List.set_cons_succ]
                                      refine wpAnyL_take (i := 3) (v := ?_) rfl (by kernel_rfl) (by kernel_rfl) (by kernel_rfl) (by kernel_rfl) (fun _ _ _ h => h) (Or.inl ⟨by rfl, fun w0 hSw => ?_⟩) hHeld ?_
                                      rotate_left
                                      · (try dsimp only at hSw)
                                        go_simp
                                        try with_reducible rfl
                                      simp only [Act.put, List.getElem_toArray, List.getElem_cons_succ, List.getElem_cons_zero, List.setIfInBounds_toArray, List.set_cons_zero, List.set_cons_succ]
                                      refine wpAnyL_take (i := 4) (v := ?_) rfl (by kernel_rfl) (by kernel_rfl) (by kernel_rfl) (by kernel_rfl) (fun _ _ _ h => h) (Or.inl ⟨by rfl, fun w0 hSw => ?_⟩) hHeld ?_
                                      rotate_left
                                      · (try dsimp only at hSw)
                                        go_simp
                                        try with_reducible rfl
                                      simp only [Act.put, List.getElem_toArray, List.getElem_cons_succ, List.getElem_cons_zero, List.setIfInBounds_toArray, List.set_cons_zero, List.set_cons_succ]
                                      refine wpAnyL_take (i := 5) (v := ?_) rfl (by kernel_rfl) (by kernel_rfl) (by kernel_rfl) (by kernel_rfl) (fun _ _ _ h => h) (Or.inl ⟨by rfl, fun w0 hSw => ?_⟩) hHeld ?_
                                      rotate_left
                                      · (try dsimp only at hSw)
                                        go_simp
                                        try with_reducible rfl
                                      simp only [Act.put, List.getElem_toArray, List.getElem_cons_succ, List.getElem_cons_zero, List.setIfInBounds_toArray, List.set_cons_zero, List.set_cons_succ]
                                      refine wpAnyL_ready (rs := [6]) (by kernel_rfl) (by simp) ?_
                                      refine AllReadyL.cons (o := _) rfl (fun K hK => ?_) AllReadyL.nil
                                      go_simp
                                      go_at_call 29; refine (rmul_any (QL.out.rd.ext (Ext.trans b23 XE)) (T6.out.rd.ext XE) (S1.out.le (by decide)) (S5.out.1.le (by decide))).mono ?_; rintro e w25 ⟨v25, rfl, b25, o25⟩; have O25 := Lib.hid o25; clear o25; (first | have XE := Ext.trans XE b25 | have XE := Ext.trans (Ext.trans XE (Ext.alloc _ _)) b25)
                                      go_wp2_with fail
                                      refine hK.out _ _ (⟨(T1.out.ext XE).c3, (CL24.out.ext XE).c3, (T4.out.ext XE).c3⟩) (fun hHeld => ?_)
                                      clear hK K
                                      try simp only [Act.put, List.getElem_toArray, List.getElem_cons_succ, List.getElem_cons_zero, List.setIfInBounds_toArray, List.set_cons_zero, List.set_cons_succ]
                                      refine wpAnyL_ready (rs := [7]) (by kernel_rfl) (by simp) ?_
                                      refine AllReadyL.cons (o := _) rfl (fun K hK => ?_) AllReadyL.nil
                                      go_simp
                                      go_at_call 28; refine (radd_any (T3.out.rd.ext XE) O25.out.rd (SF.out.1.le (by decide)) ((S1.out.mul S5.out.1).le (by decide))).mono ?_; rintro e w26 ⟨v26, rfl, b26, o26⟩; have O26 := Lib.hid o26; clear o26; (first | have XE := Ext.trans XE b26 | have XE := Ext.trans (Ext.trans XE (Ext.alloc _ _)) b26); obtain ⟨_, _, _, _, _, _, _, rfl, P26⟩ := O26.out.op
                                      go_wp2_with fail
                                      refine hK.out _ _ (⟨(T1.out.ext XE).c3, (CL24.out.ext XE).c3, (T4.out.ext XE).c3⟩) (fun hHeld => ?_)
                                      clear hK K
                                      try simp only [Act.put, List.getElem_toArray, List.getElem_cons_succ, List.getElem_cons_zero, List.setIfInBounds_toArray, List.set_cons_zero, List.set_cons_succ]
                                      obtain ⟨_, _, _, j0, j1, j2, i0, i1, i2⟩ := (T2.out.ext XE).rm.c3
                                      refine wpAnyL_ready (rs := [8]) (by kernel_rfl) (by simp) ?_
                                      refine AllReadyL.last (o := _) rfl (fun K hK => ?_)
                                      go_simp
                                      refine hK.out _ _ ?_
                                      clear hK K
                                      try simp only [Act.put, List.getElem_toArray, List.getElem_cons_succ, List.getElem_cons_zero, List.setIfInBounds_toArray, List.set_cons_zero, List.set_cons_succ]
                                      refine wpAnyL_done (by kernel_rfl) ?_ _
                                      refine NoPanic.normal ?_
                                      go_wp2_with fail
                                      go_meet
                                      exact ⟨rfl, put3_below (Ext.trans b23 XE) HNE.out.1 _ _ _, Lib.hid (Bs.put (HB23.out.ext XE) (T2.out.ext XE) (P26.out.mono (Nat.zero_le _)) [(B1, f.1 + p * ea), (GA, ea), (GB, eb), (V, v), (B2, f.2), (B3, s)] (by have h1 := N18.out; have h2 := NG.out; have h3 := HNE.out; intro u hu; simp at hu; rcases hu with rfl | rfl | rfl | rfl | rfl | rfl <;> simp <;> omega))⟩
                                  case rest =>
                                    focus
                                      obtain ⟨rfl, b24, HB24⟩ := hcut
                                      generalize wc = w24 at *
                                      go_upto_region 21 with (fail)
                                      go_cut [15] (fun s15 wx => s15 = .pointer (some ⟨B2, 0, none⟩) ∧ Ext w14 wx ∧ Hid (Bs wx [(B2, f.2 + p * eb), (B1, f.1 + p * ea), (GA, ea), (GB, eb), (V, v), (B3, s)]))
                                      case first =>
                                        focus
                                          have HP25 := Lib.hid (HB24.out.at B2 (f.2) (by simp))
                                          have HQ25 := Lib.hid (HB24.out.at GB (eb) (by simp))
                                          obtain ⟨z0, d1, n1, g1, d2, n2, g2, T1, T2, T3⟩ := HP25.out.op
                                          obtain ⟨z3, d4, n4, g4, d5, n5, g5, T4, T5, T6⟩ := HQ25.out.op
                                          have CL25 := Lib.hid (Bo.ext KL.out b24)
                                          have b25 := drew_ext w24
                                          have XE := b25
                                          refine wp_region_noPanic ?_
                                          refine wp_region_last_drew (st := 8) (S := fun w' => (w'.cell? ⟨B2, 0, none⟩ = some (.bool z0) ∧ w'.cell? ⟨B2, 1, none⟩ = some (.slice d1 n1 g1) ∧ w'.cell? ⟨B2, 2, none⟩ = some (.slice d2 n2 g2)) ∧ (w'.cell? ⟨b, off + k * 3, none⟩ = some (p0) ∧ w'.cell? ⟨b, off + k * 3 + 1, none⟩ = some (p1) ∧ w'.cell? ⟨b, off + k * 3 + 2, none⟩ = some (p2)) ∧ (w'.cell? ⟨GB, 0, none⟩ = some (.bool z3) ∧ w'.cell? ⟨GB, 1, none⟩ = some (.slice d4 n4 g4) ∧ w'.cell? ⟨GB, 2, none⟩ = some (.slice d5 n5 g5))) (by kernel_rfl) (⟨(T1.out.ext XE).c3, (CL25.out.ext XE).c3, (T4.out.ext XE).c3⟩) (fun hHeld => ?_)
                                          refine wpAnyL_take (i := 0) (v := ?_) rfl (by kernel_rfl) (by kernel_rfl) (by kernel_rfl) (by kernel_rfl) (fun _ _ _ h => h) (Or.inl ⟨by rfl, fun w0 hSw => ?_⟩) hHeld ?_
                                          rotate_left
                                          · (try dsimp only at hSw)
                                            go_simp
                                            try with_reducible rfl
                                          simp only [Act.put, List.getElem_toArray, List.getElem_cons_succ, List.getElem_cons_zero, List.setIfInBounds_toArray, List.set_cons_zero, List.set_cons_succ]
                                          refine wpAnyL_take (i := 1) (v := ?_) rfl (by kernel_rfl) (by kernel_rfl) (by kernel_rfl) (by kernel_rfl) (fun _ _ _ h => h) (Or.inl ⟨by rfl, fun w0 hSw => ?_⟩) hHeld ?_
                                          rotate_left
                                          · (try dsimp only at hSw)
                                            go_simp
                                            try with_reducible rfl
                                          simp only [Act.put, List.getElem_toArray, List.getElem_cons_succ, List.getElem_cons_zero, List.setIfInBounds_toArray, List.set_cons_zero, List.set_cons_succ]
                                          refine wpAnyL_take (i := 2) (v := ?_) rfl (by kernel_rfl) (by kernel_rfl) (by kernel_rfl) (by kernel_rfl) (fun _ _ _ h => h) (Or.inl ⟨by rfl, fun w0 hSw => ?_⟩) hHeld ?_
                                          rotate_left
                                          · (try dsimp only at hSw)
                                            go_simp
                                            try with_reducible rfl
                                          simp only [Act.put, List.getElem_toArray, List.getElem_cons_succ, List.getElem_cons_zero, List.setIfInBounds_toArray, List.set_cons_zero, List.set_cons_succ]
                                          refine wpAnyL_take (i := 3) (v := ?_) rfl (by kernel_rfl) (by kernel_rfl) (by kernel_rfl) (by kernel_rfl) (fun _ _ _ h => h) (Or.inl ⟨by rfl, fun w0 hSw => ?_⟩) hHeld ?_
                                          rotate_left
                                          · (try dsimp only at hSw)
                                            go_simp
                                            try with_reducible rfl
                                          simp only [Act.put, List.getElem_toArray, List.getElem_cons_succ, List.getElem_cons_zero, List.setIfInBounds_toArray, List.set_cons_zero, List.set_cons_succ]
                                          refine wpAnyL_take (i := 4) (v := ?_) rfl (by kernel_rfl) (by kernel_rfl) (by kernel_rfl) (by kernel_rfl) (fun _ _ _ h => h) (Or.inl ⟨by rfl, fun w0 hSw => ?_⟩) hHeld ?_
                                          rotate_left
                                          · (try dsimp only at hSw)
                                            go_simp
                                            try with_reducible rfl
                                          simp only [Act.put, List.getElem_toArray, List.getElem_cons_succ, List.getElem_cons_zero, List.setIfInBounds_toArray, List.set_cons_zero, List.set_cons_succ]
                                          refine wpAnyL_take (i := 5) (v := ?_) rfl (by kernel_rfl) (by kernel_rfl) (by kernel_rfl) (by kernel_rfl) (fun _ _ _ h => h) (Or.inl ⟨by rfl, fun w0 hSw => ?_⟩) hHeld ?_
                                          rotate_left
                                          · (try dsimp only at hSw)
                                            go_simp
                                            try with_reducible rfl
                                          simp only [Act.put, List.getElem_toArray, List.getElem_cons_succ, List.getElem_cons_zero, List.setIfInBounds_toArray, List.set_cons_zero, List.set_cons_succ]
                                          refine wpAnyL_ready (rs := [6]) (by kernel_rfl) (by simp) ?_
                                          refine AllReadyL.cons (o := _) rfl (fun K hK => ?_) AllReadyL.nil
                                          go_simp
                                          go_at_call 29; refine (rmul_any (QL.out.rd.ext (Ext.trans b24 XE)) (T6.out.rd.ext XE) (S1.out.le (by decide)) (S5.out.2.le (by decide))).mono ?_; rintro e w26 ⟨v26, rfl, b26, o26⟩; have O26 := Lib.hid o26; clear o26; (first | have XE := Ext.trans XE b26 | have XE := Ext.trans (Ext.trans XE (Ext.alloc _ _)) b26)
                                          go_wp2_with fail
                                          refine hK.out _ _ (⟨(T1.out.ext XE).c3, (CL25.out.ext XE).c3, (T4.out.ext XE).c3⟩) (fun hHeld => ?_)
                                          clear hK K
                                          try simp only [Act.put, List.getElem_toArray, List.getElem_cons_succ, List.getElem_cons_zero, List.setIfInBounds_toArray, List.set_cons_zero, List.set_cons_succ]
                                          refine wpAnyL_ready (rs := [7]) (by kernel_rfl) (by simp) ?_
                                          refine AllReadyL.cons (o := _) rfl (fun K hK => ?_) AllReadyL.nil
                                          go_simp
                                          go_at_call 28; refine (radd_any (T3.out.rd.ext XE) O26.out.rd (SF.out.2.le (by decide)) ((S1.out.mul S5.out.2).le (by decide))).mono ?_; rintro e w27 ⟨v27, rfl, b27, o27⟩; have O27 := Lib.hid o27; clear o27; (first | have XE := Ext.trans XE b27 | have XE := Ext.trans (Ext.trans XE (Ext.alloc _ _)) b27); obtain ⟨_, _, _, _, _, _, _, rfl, P27⟩ := O27.out.op
                                          go_wp2_with fail
                                          refine hK.out _ _ (⟨(T1.out.ext XE).c3, (CL25.out.ext XE).c3, (T4.out.ext XE).c3⟩) (fun hHeld => ?_)
                                          clear hK K
                                          try simp only [Act.put, List.getElem_toArray, List.getElem_cons_succ, List.getElem_cons_zero, List.setIfInBounds_toArray, List.set_cons_zero, List.set_cons_succ]
                                          obtain ⟨_, _, _, j0, j1, j2, i0, i1, i2⟩ := (T2.out.ext XE).rm.c3
                                          refine wpAnyL_ready (rs := [8]) (by kernel_rfl) (by simp) ?_
                                          refine AllReadyL.last (o := _) rfl (fun K hK => ?_)
                                          go_simp
                                          refine hK.out _ _ ?_
                                          clear hK K
                                          try simp only [Act.put, List.getElem_toArray, List.getElem_cons_succ, List.getElem_cons_zero, List.setIfInBounds_toArray, List.set_cons_zero, List.set_cons_succ]
                                          refine wpAnyL_done (by kernel_rfl) ?_ _
                                          refine NoPanic.normal ?_
                                          go_wp2_with fail
                                          go_meet
                                          exact ⟨rfl, put3_below (Ext.trans b24 XE) HNE.out.2.1 _ _ _, Lib.hid (Bs.put (HB24.out.ext XE) (T2.out.ext XE) (P27.out.mono (Nat.zero_le _)) [(B2, f.2 + p * eb), (B1, f.1 + p * ea), (GA, ea), (GB, eb), (V, v), (B3, s)] (by have h1 := N18.out; have h2 := NG.out; have h3 := HNE.out; intro u hu; simp at hu; rcases hu with rfl | rfl | rfl | rfl | rfl | rfl <;> simp <;> omega))⟩
                                      case rest =>
                                        focus
                                          obtain ⟨rfl, b25, HB25⟩ := hcut
                                          generalize wc = w25 at *
                                          go_upto_region 22 with (fail)
                                          have HP26 := Lib.hid (HB25.out.at B3 (s) (by simp))
                                          have HQ26 := Lib.hid (HB25.out.at V (v) (by simp))
                                          obtain ⟨z0, d1, n1, g1, d2, n2, g2, T1, T2, T3⟩ := HP26.out.op
                                          obtain ⟨z3, d4, n4, g4, d5, n5, g5, T4, T5, T6⟩ := HQ26.out.op
                                          have CL26 := Lib.hid (Bo.ext KL.out b25)
                                          have b26 := drew_ext w25
                                          have XE := b26
                                          refine wp_region_noPanic ?_
                                          refine wp_region_last_drew (st := 8) (S := fun w' => (w'.cell? ⟨B3, 0, none⟩ = some (.bool z0) ∧ w'.cell? ⟨B3, 1, none⟩ = some (.slice d1 n1 g1) ∧ w'.cell? ⟨B3, 2, none⟩ = some (.slice d2 n2 g2)) ∧ (w'.cell? ⟨b, off + k * 3, none⟩ = some (p0) ∧ w'.cell? ⟨b, off + k * 3 + 1, none⟩ = some (p1) ∧ w'.cell? ⟨b, off + k * 3 + 2, none⟩ = some (p2)) ∧ (w'.cell? ⟨V, 0, none⟩ = some (.bool z3) ∧ w'.cell? ⟨V, 1, none⟩ = some (.slice d4 n4 g4) ∧ w'.cell? ⟨V, 2, none⟩ = some (.slice d5 n5 g5))) (by kernel_rfl) (⟨(T1.out.ext XE).c3, (CL26.out.ext XE).c3, (T4.out.ext XE).c3⟩) (fun hHeld => ?_)
                                          refine wpAnyL_take (i := 0) (v := ?_) rfl (by kernel_rfl) (by kernel_rfl) (by kernel_rfl) (by kernel_rfl) (fun _ _ _ h => h) (Or.inl ⟨by rfl, fun w0 hSw => ?_⟩) hHeld ?_
                                          rotate_left
                                          · (try dsimp only at hSw)
                                            go_simp
                                            try with_reducible rfl
                                          simp only [Act.put, List.getElem_toArray, List.getElem_cons_succ, List.getElem_cons_zero, List.setIfInBounds_toArray, List.set_cons_zero, List.set_cons_succ]
                                          refine wpAnyL_take (i := 1) (v := ?_) rfl (by kernel_rfl) (by kernel_rfl) (by kernel_rfl) (by kernel_rfl) (fun _ _ _ h => h) (Or.inl ⟨by rfl, fun w0 hSw => ?_⟩) hHeld ?_
                                          rotate_left
                                          · (try dsimp only at hSw)
                                            go_simp
                                            try with_reducible rfl
                                          simp only [Act.put, List.getElem_toArray, List.getElem_cons_succ, List.getElem_cons_zero, List.setIfInBounds_toArray, List.set_cons_zero, List.set_cons_succ]
                                          refine wpAnyL_take (i := 2) (v := ?_) rfl (by kernel_rfl) (by kernel_rfl) (by kernel_rfl) (by kernel_rfl) (fun _ _ _ h => h) (Or.inl ⟨by rfl, fun w0 hSw => ?_⟩) hHeld ?_
                                          rotate_left
                                          · (try dsimp only at hSw)
                                            go_simp
                                            try with_reducible rfl
                                          simp only [Act.put, List.getElem_toArray, List.getElem_cons_succ, List.getElem_cons_zero, List.setIfInBounds_toArray, List.set_cons_zero, List.set_cons_succ]
                                          refine wpAnyL_take (i := 3) (v := ?_) rfl (by kernel_rfl) (by kernel_rfl) (by kernel_rfl) (by kernel_rfl) (fun _ _ _ h => h) (Or.inl ⟨by rfl, fun w0 hSw => ?_⟩) hHeld ?_
                                          rotate_left
                                          · (try dsimp only at hSw)
                                            go_simp
                                            try with_reducible rfl
                                          simp only [Act.put, List.getElem_toArray, List.getElem_cons_succ, List.getElem_cons_zero, List.setIfInBounds_toArray, List.set_cons_zero, List.set_cons_succ]
                                          refine wpAnyL_take (i := 4) (v := ?_) rfl (by kernel_rfl) (by kernel_rfl) (by kernel_rfl) (by kernel_rfl) (fun _ _ _ h => h) (Or.inl ⟨by rfl, fun w0 hSw => ?_⟩) hHeld ?_
                                          rotate_left
                                          · (try dsimp only at hSw)
                                            go_simp
                                            try with_reducible rfl
                                          simp only [Act.put, List.getElem_toArray, List.getElem_cons_succ, List.getElem_cons_zero, List.setIfInBounds_toArray, List.set_cons_zero, List.set_cons_succ]
                                          refine wpAnyL_take (i := 5) (v := ?_) rfl (by kernel_rfl) (by kernel_rfl) (by kernel_rfl) (by kernel_rfl) (fun _ _ _ h => h) (Or.inl ⟨by rfl, fun w0 hSw => ?_⟩) hHeld ?_
                                          rotate_left
                                          · (try dsimp only at hSw)
                                            go_simp
                                            try with_reducible rfl
                                          simp only [Act.put, List.getElem_toArray, List.getElem_cons_succ, List.getElem_cons_zero, List.setIfInBounds_toArray, List.set_cons_zero, List.set_cons_succ]
                                          refine wpAnyL_ready (rs := [6]) (by kernel_rfl) (by simp) ?_
                                          refine AllReadyL.cons (o := _) rfl (fun K hK => ?_) AllReadyL.nil
                                          go_simp
                                          go_at_call 29; refine (rmul_any (QL.out.rd.ext (Ext.trans b25 XE)) (T6.out.rd.ext XE) (S1.out.le (by decide)) (HV.out.2.2.le (by decide))).mono ?_; rintro e w27 ⟨v27, rfl, b27, o27⟩; have O27 := Lib.hid o27; clear o27; (first | have XE := Ext.trans XE b27 | have XE := Ext.trans (Ext.trans XE (Ext.alloc _ _)) b27)
                                          go_wp2_with fail
                                          refine hK.out _ _ (⟨(T1.out.ext XE).c3, (CL26.out.ext XE).c3, (T4.out.ext XE).c3⟩) (fun hHeld => ?_)
                                          clear hK K
                                          try simp only [Act.put, List.getElem_toArray, List.getElem_cons_succ, List.getElem_cons_zero, List.setIfInBounds_toArray, List.set_cons_zero, List.set_cons_succ]
                                          refine wpAnyL_ready (rs := [7]) (by kernel_rfl) (by simp) ?_
                                          refine AllReadyL.cons (o := _) rfl (fun K hK => ?_) AllReadyL.nil
                                          go_simp
                                          go_at_call 28; refine (radd_any (T3.out.rd.ext XE) O27.out.rd (SS3.out.le (by decide)) ((S1.out.mul HV.out.2.2).le (by decide))).mono ?_; rintro e w28 ⟨v28, rfl, b28, o28⟩; have O28 := Lib.hid o28; clear o28; (first | have XE := Ext.trans XE b28 | have XE := Ext.trans (Ext.trans XE (Ext.alloc _ _)) b28); obtain ⟨_, _, _, _, _, _, _, rfl, P28⟩ := O28.out.op
                                          go_wp2_with fail
                                          refine hK.out _ _ (⟨(T1.out.ext XE).c3, (CL26.out.ext XE).c3, (T4.out.ext XE).c3⟩) (fun hHeld => ?_)
                                          clear hK K
                                          try simp only [Act.put, List.getElem_toArray, List.getElem_cons_succ, List.getElem_cons_zero, List.setIfInBounds_toArray, List.set_cons_zero, List.set_cons_succ]
                                          obtain ⟨_, _, _, j0, j1, j2, i0, i1, i2⟩ := (T2.out.ext XE).rm.c3
                                          refine wpAnyL_ready (rs := [8]) (by kernel_rfl) (by simp) ?_
                                          refine AllReadyL.last (o := _) rfl (fun K hK => ?_)
                                          go_simp
                                          refine hK.out _ _ ?_
                                          clear hK K
                                          try simp only [Act.put, List.getElem_toArray, List.getElem_cons_succ, List.getElem_cons_zero, List.setIfInBounds_toArray, List.set_cons_zero, List.set_cons_succ]
                                          refine wpAnyL_done (by kernel_rfl) ?_ _
                                          refine NoPanic.normal ?_
                                          go_wp2_with fail
                                          go_roundw
                                          case rel =>
                                            refine ⟨k + 1, s + p * v, by go_num, by omega, put3_below (Ext.trans b25 XE) HNE.out.2.2.1 _ _ _, ⟨?_, ?_, ?_⟩, ?_, ?_, ?_⟩
                                            · exact Nat.lt_of_lt_of_le (HB25.out.at B1 (f.1 + p * ea) (by simp)).lt (Nat.le_trans XE.size (Nat.le_of_eq (put3_sz _ _ _ _ _).symm))
                                            · exact Nat.lt_of_lt_of_le (HB25.out.at B2 (f.2 + p * eb) (by simp)).lt (Nat.le_trans XE.size (Nat.le_of_eq (put3_sz _ _ _ _ _).symm))
                                            · exact Nat.lt_of_lt_of_le (HB25.out.at B3 s (by simp)).lt (Nat.le_trans XE.size (Nat.le_of_eq (put3_sz _ _ _ _ _).symm))
                                            · rw [HK.out, HES.out.1, HES.out.2]
                                              exact Lib.hid (Bs.put (HB25.out.ext XE) (T2.out.ext XE) (P28.out.mono (Nat.zero_le _)) [(B1, f.1 + p * ea), (B2, f.2 + p * eb), (B3, s + p * v)] (by have h1 := N18.out; have h3 := HNE.out; intro u hu; simp at hu; rcases hu with rfl | rfl | rfl <;> simp <;> omega))
                                            · rw [HK.out]
                                              exact ⟨add_le_both hS.out.1 HEV.out.1, add_le_both hS.out.2 HEV.out.2⟩
                                            · have h1 := hZS.out.add (S1.out.mul HV.out.2.2)
                                              exact h1.le (by omega)
                                          case measure => simp [intOf] <;> omega
                · have hd : decide ((y.1 - y.2).num.sign ≤ 0) = false := decide_eq_false fun h => hck (sign_le.1 h)
                  rw [hd]
                  clear hd hck
                  go_wp2_with fail
                  exact hR.out _ _ (Gives.mk (Ext.trans b014 (Ext.trans b16 b17)) rfl)
              · obtain rfl : k = L.length := by omega
                have hfe : wfold ((L.zip M).take L.length) (q, q) = (A, B) := by rw [List.take_of_length_le (by rw [HLZ.out]; exact Nat.le_refl _), HWF.out]
                rw [hfe] at hBS hS
                have b1416 := b16
                have HP1 := Lib.hid (hBS.out.at B1 A (by simp))
                have HP2 := Lib.hid (hBS.out.at B2 B (by simp))
                have HP3 := Lib.hid (hBS.out.at B3 s (by simp))
                obtain ⟨z0, d1, n1, g1, d2, n2, g2, T1, T2, T3⟩ := HP1.out.op
                obtain ⟨z3, d4, n4, g4, d5, n5, g5, T4, T5, T6⟩ := HP2.out.op
                obtain ⟨z6, d7, n7, g7, d8, n8, g8, T7, T8, T9⟩ := HP3.out.op
                have SS3 : Hid (Sz 1000 s) := hZS.out.le (by have := NL.out; omega)
                have hh1 : Hid ((decide ((A - s).num.sign ≤ 0) && decide ((s - B).num.sign ≤ 0)) = true) := by
                  show _ = _
                  simp only [Bool.and_eq_true, decide_eq_true_eq]
                  exact ⟨sign_le.2 hS.out.1, sign_le.2 hS.out.2⟩
                have hh2 : Hid ((A - A).num.sign = 0) := by show _ = _; rw [Rat.sub_self]; rfl
                have hh3 : Hid ((B - B).num.sign = 0) := by show _ = _; rw [Rat.sub_self]; rfl
                obtain ⟨e0, e1, e2, e3, e4, e5⟩ := (E14.out.ext b16).c6
                obtain ⟨e6, e7, e8⟩ := T7.out.c3
                go_wp2_with fail
                refine (hh1.out ▸ shas_any (F14.out.rd.ext b16) T9.out.rd (SA.out.1.le (by decide)) (SA.out.2.le (by decide)) (SS3.out.le (by decide))).mono ?_
                rintro e w17 ⟨_, rfl, b17, rfl⟩
                clear e0 e1 e2 e3 e4 e5 e6 e7 e8
                obtain ⟨e0, e1, e2, e3, e4, e5⟩ := (E14.out.ext (Ext.trans b16 b17)).c6
                obtain ⟨e6, e7, e8⟩ := (T1.out.ext b17).c3
                go_wp2_with fail
                refine (hh2.out ▸ rcmp_any (T3.out.rd.ext b17) (RdD.fst3 (F14.out.rd.ext (Ext.trans b16 b17))) (SA.out.1.le (by decide)) (SA.out.1.le (by decide))).mono ?_
                rintro e w18 ⟨_, rfl, b18, rfl⟩
                clear e0 e1 e2 e3 e4 e5 e6 e7 e8
                obtain ⟨e0, e1, e2, e3, e4, e5⟩ := (E14.out.ext (Ext.trans b16 (Ext.trans b17 b18))).c6
                obtain ⟨e6, e7, e8⟩ := (T4.out.ext (Ext.trans b17 b18)).c3
                go_wp2_with fail
                refine (hh3.out ▸ rcmp_any (T6.out.rd.ext (Ext.trans b17 b18)) (RdD.snd3 (F14.out.rd.ext (Ext.trans b16 (Ext.trans b17 b18)))) (SA.out.2.le (by decide)) (SA.out.2.le (by decide))).mono ?_
                rintro e w19 ⟨_, rfl, b19, rfl⟩
                go_wp2_with fail
                exact hR.out _ _ (Gives.mk (Ext.trans b014 (Ext.trans b16 (Ext.trans b17 (Ext.trans b18 b19)))) rfl)
theorem own : ownKnob Try.prog.godebug = none := by kernel_rfl
theorem laidOut : laidOutB Try.prog = true := by kernel_rfl

set_option maxRecDepth 100000 in
theorem contract (H : Type) (enc : TypeId × Value → H) (W : World) (base : Nat) (args : Array Value) (ds gs : List (DataW H)) (before : List MemPlace)
    (hval : ∀ (j : Nat) t v, Try.f3.params[j]? = some t → args[j]? = some v → Value.okWide Try.prog W .any base t v)
    (hW : DataW.Whole enc Try.prog Try.f3.params.toList Rows.spanWeighsSpec.vars false W args.toList ds gs before) (hk : Rows.uptoSmall H (ds ++ gs) = true) :
    Calls Try.prog 3 args W fun e W' => ∃ v, e = .returned v ∧ Rows.spanWeighsSpec.post enc Try.prog Try.f3 false true false false W args v W' := by
  have hW' := hW
  obtain ⟨p, q, hA0, hV, rfl, hfz, hnd⟩ := hW
  have hA : DataW.TrodAll enc Try.prog W 0 (fun _ => true) true Try.f3.params.toList args.toList ds p := hA0
  rw [Try.params3] at hA hval
  obtain ⟨v0, vs0, d0, ds0, p0, q0, hargs, rfl, rfl, h0, r0⟩ := trodAll_cons hA
  obtain ⟨v1, vs1, d1, ds1, p1, q1, rfl, rfl, rfl, h1, r1⟩ := trodAll_cons r0
  obtain ⟨v2, vs2, d2, ds2, p2, q2, rfl, rfl, rfl, h2, r2⟩ := trodAll_cons r1
  obtain ⟨v3, vs3, d3, ds3, p3, q3, rfl, rfl, rfl, h3, r3⟩ := trodAll_cons r2
  obtain ⟨rfl, rfl, rfl⟩ := trodAll_nil r3
  obtain rfl : args = #[v0, v1, v2, v3] := by cases args; simp_all
  obtain ⟨rfl, rfl⟩ := trodVars_none hV
  have hb := bulk_small hk
  simp only [List.append_nil, bulk_cons, bulk_nil] at hb
  have k0 := h0
  have lt0 : ∀ x ∈ p0, x.block < W.heap.size := by obtain ⟨m, hm⟩ := k0; exact DataW.trod_lt m _ _ _ hm
  obtain ⟨l0, rd0, bd0, len0⟩ := open_rowN Try.underlying22 (hval 0 22 v0 rfl rfl) h0
  have k1 := h1
  have lt1 : ∀ x ∈ p1, x.block < W.heap.size := by obtain ⟨m, hm⟩ := k1; exact DataW.trod_lt m _ _ _ hm
  obtain ⟨s1, x1, y1, rd1, len1⟩ := open_N (hval 1 25 v1 rfl rfl) h1
  have k2 := h2
  have lt2 : ∀ x ∈ p2, x.block < W.heap.size := by obtain ⟨m, hm⟩ := k2; exact DataW.trod_lt m _ _ _ hm
  obtain ⟨l2, rd2, bd2, len2⟩ := open_rowND Try.underlying26 Try.underlying152 rfl rfl rfl rfl (by kernel_rfl) (hval 2 26 v2 rfl rfl) h2
  have k3 := h3
  have lt3 : ∀ x ∈ p3, x.block < W.heap.size := by obtain ⟨m, hm⟩ := k3; exact DataW.trod_lt m _ _ _ hm
  obtain ⟨l3, rd3, bd3, len3⟩ := open_rowN Try.underlying22 (hval 3 22 v3 rfl rfl) h3
  clear hA0
  refine (walk rd0 (fun p hp => by have := bd0 p hp; omega) (by omega) rd1 (by omega) (by omega) rd2 (fun p hp => by have := bd2 p hp; omega) (by omega) rd3 (fun p hp => by have := bd3 p hp; omega) (by omega)).mono fun e W' ⟨v, he, bel, hv⟩ => ?_
  subst he hv
  exact ⟨_, rfl, _, _, _, [], _, [], hW', trodAll_mk1 (shut_bool Try.underlying4 _), (trodAll_cons_mk (Below.trod laidOut (by kernel_rfl) (of_decide_eq_true (by kernel_rfl)) k0 bel lt0) (trodAll_cons_mk (Below.trod laidOut (by kernel_rfl) (of_decide_eq_true (by kernel_rfl)) k1 bel lt1) (trodAll_cons_mk (Below.trod laidOut (by kernel_rfl) (of_decide_eq_true (by kernel_rfl)) k2 bel lt2) (trodAll_cons_mk (Below.trod laidOut (by kernel_rfl) (of_decide_eq_true (by kernel_rfl)) k3 bel lt3) trodAll_mk0)))), rfl, bel.frame _, fun h => by cases h⟩

set_option maxRecDepth 100000 in
theorem lifted (os : Os) (started : os.Started) (H : Type) (enc : TypeId × Value → H) (F : Stop.Interp) :
    ReturnsInHanded {} Try.checked os 3 .any ((Rows.OpenSpec.upto Rows.spanWeighsSpec).pre6 enc Try.prog Try.f3 Rows.spanWeighsUptoRow.domain false) (((Rows.OpenSpec.upto Rows.spanWeighsSpec).at F).post enc Try.prog Try.f3 false true false false) := by
  refine returnsInHanded_of_cond (C := Try.checked) (s := Rows.OpenSpec.upto Rows.spanWeighsSpec) (k := Rows.uptoSmall) rfl own started (by kernel_rfl) Try.func3
    (OpenSpec.witness (enc := enc) (C := Try.checked) (s := Rows.OpenSpec.upto Rows.spanWeighsSpec) (k := Rows.uptoSmall) rfl false ⟨#[], #[.slice none 0 0, .agg #[.bool false, .slice none 0 0, .slice none 0 0], .slice none 0 0, .slice none 0 0], []⟩ 8 (by kernel_rfl) (by kernel_rfl) (by kernel_rfl)
      (x := ([.nil, .agg [.lit (.bool false), .nil, .nil], .nil, .nil], [], [])) (by kernel_rfl) rfl (by kernel_rfl)) ?_
  intro W base args ds gs before hval hW _ hk _
  exact contract H enc W base args ds gs before hval hW hk

theorem proved : Rows.SpanWeighsUptoSaid :=
  OpenClaim.holds_of_cond 3 Try.f3 rfl rfl rfl rfl rfl rfl rfl ⟨rfl, rfl, rfl, rfl, rfl⟩ rfl rfl rfl rfl rfl (by kernel_rfl) Try.func3 (by kernel_rfl)
    (of_decide_eq_true (by kernel_rfl)) (by unfold Func.isWrapper; first | (rw [if_pos (by decide +kernel)]; kernel_rfl) | (rw [if_neg (by decide +kernel)]; exact ⟨rfl, rfl⟩))
    (fun os started H enc _ F => lifted os started H enc F)
#print axioms proved

end Go.Proofs.Ytnbbhpihlcglgaa.spanWeighs
