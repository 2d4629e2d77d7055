/- attestref17.Relu -/
import Derived.Test.YtpeeacdnjbcmiaaPRef17b
import Derived.Test.YtpeeacdnjbcmiaaPRef5Int
namespace Go.Proofs.Ytpeeacdnjbcmiaa
open Go.RowKit Go.Att

/-- v reads as q, whatever is put into block c. -/
def Sv (w : World) (c : Nat) (v : Value) (q : Rat) : Prop := RdP w v q ∧ ∀ w', Ext w w' → ∀ x y z x' y' z', RdP (put6 w' c x y z x' y' z') v q
theorem Sv.ext {w w' : World} {c : Nat} {v : Value} {q : Rat} (h : Sv w c v q) (X : Ext w w') : Sv w' c v q := ⟨h.1.ext X, fun w2 Y => h.2 w2 (X.trans Y)⟩
theorem Sv.of_rd {w0 w : World} {c : Nat} {v : Value} {q : Rat} (h : RdP w0 v q) (X : Ext w0 w) (hc : w0.heap.size ≤ c) : Sv w c v q := ⟨h.ext X, fun _ Y _ _ _ _ _ _ => h.ext (put6_below (X.trans Y) hc _ _ _ _ _ _)⟩
theorem Sv.of_own {e : TypeId} {B : Nat} {w : World} {c : Nat} {v : Value} {q : Rat} (h : OwnP e B w v q) (hc : c < B) : Sv w c v q := by
  refine ⟨h.rd, fun w' Y x y z x' y' z' => ?_⟩
  obtain ⟨n, d, rfl, on, od⟩ := h
  exact ⟨_, _, rfl, (on.put6 Y (.inl hc) _ _ _ _ _ _).rd, (od.put6 Y (.inl hc) _ _ _ _ _ _).rd⟩
theorem Sv.shape {w : World} {c : Nat} {v : Value} {q : Rat} (h : Sv w c v q) : ∃ a n b d, v = .agg #[.bool (decide (q.num < 0)), .slice a (bitsOf q.num.natAbs).length n, .slice b (bitsOf q.den).length d] := by
  obtain ⟨⟨n, d, rfl, hn, hd⟩, -⟩ := h
  obtain ⟨an, cn, rfl, -, -, -, -⟩ := hn.shape
  obtain ⟨ad, cd, rfl, -, -, -, -⟩ := hd.shape
  exact ⟨_, _, _, _, rfl⟩
theorem top_sv {w : World} {c : Nat} {va vb : Value} {p q : Rat} (hp : Sv w c va p) (hq : Sv w c vb q) (sp : Sb 50000 p) (sq : Sb 50000 q) :
    Calls Try.prog 104 #[va, vb] w (Gives w fun v' w' => Sv w' c v' (mx p q)) := by
  refine (top_val hp.1 hq.1 sp sq).mono ?_
  rintro e w' ⟨_, rfl, b, rfl⟩
  refine Gives.mk b ?_
  unfold mx
  split
  · exact hp.ext b
  · exact hq.ext b
set_option maxHeartbeats 1000000 in
set_option linter.unusedSimpArgs false in
theorem r17relu_any {w : World} {va : Value} {a b : Rat} (hp : RdE w va a b) (sa : Sb 50000 a) (sb : Sb 50000 b) :
    Calls Try.prog 44 #[va] w (Gives w fun v' w' => RdE w' v' (mx a 0) (mx b 0)) := by
  refine via fun R hR => ?_
  obtain ⟨x0, x1, x2, x3, x4, x5, rfl, h1, h2⟩ := hp
  have sz : Sb 50000 (0 : Rat) := ⟨by decide +kernel, by decide +kernel⟩
  have HA : Hid (∀ (w1 w2 : World) (v : Value), Ext w w1 → Sv w1 (w.heap.size + 1) v 0 → Calls Try.prog 104 #[.agg #[x0, x1, x2], v] w1 (Gives w1 fun v' w' => Sv w' (w.heap.size + 1) v' (mx a 0))) :=
    fun w1 _ v X h => top_sv (Sv.of_rd h1 X (by omega)) h sa sz
  have HB : Hid (∀ (w1 w2 : World) (v : Value), Ext w w1 → Sv w1 (w.heap.size + 1) v 0 → Calls Try.prog 104 #[.agg #[x3, x4, x5], v] w1 (Gives w1 fun v' w' => Sv w' (w.heap.size + 1) v' (mx b 0))) :=
    fun w1 _ v X h => top_sv (Sv.of_rd h2 X (by omega)) h sb sz
  have HI : Hid (∀ w1 : World, w.heap.size + 1 < w1.heap.size → Calls Try.prog 27 #[.int .i64 0] w1 (Gives w1 fun v' w' => Sv w' (w.heap.size + 1) v' 0)) := fun w1 h => by
    refine (r5int_any (u := 0) (by omega)).mono ?_
    rintro e w' ⟨_, rfl, b, o⟩
    exact Gives.mk b (Sv.of_own o h)
  generalize mx a 0 = A at *
  generalize mx b 0 = B at *
  obtain ⟨w1, hw1, b1, c1, -, -, r2, z⟩ := bx2 w [x0, x1, x2, x3, x4, x5] [.bool false, .slice none 0 0, .slice none 0 0, .bool false, .slice none 0 0, .slice none 0 0] 69 69
  have C1 := Lib.hid c1
  have RR : Hid (Rm w1 (w.heap.size + 1) 6) := r2
  have HW := Lib.hid hw1
  have SZ : Hid (w.heap.size + 1 < w1.heap.size) := by show _ < _; omega
  clear h1 h2 sa sb sz c1 r2 hw1 z
  go_enter Try.func44, Try.ntmps44
  go_upto_region 1 with (fail)
  rw [← HW.out]
  clear HW
  have b2 := drew_ext w1
  have XE := b2
  refine wp_region_noPanic ?_
  refine wp_region_held_drew (S := fun w' => w'.cell? ⟨w.heap.size, 0, none⟩ = some (x0) ∧ w'.cell? ⟨w.heap.size, 1, none⟩ = some (x1) ∧ w'.cell? ⟨w.heap.size, 2, none⟩ = some (x2) ∧ w'.cell? ⟨w.heap.size, 3, none⟩ = some (x3) ∧ w'.cell? ⟨w.heap.size, 4, none⟩ = some (x4) ∧ w'.cell? ⟨w.heap.size, 5, none⟩ = some (x5)) (by kernel_rfl) ((C1.out.ext XE).c6) (fun hHeld => ?_)
  refine wpAnyH_take (i := 0) (v := ?_) rfl (by kernel_rfl) (by kernel_rfl) (by kernel_rfl) (fun _ _ _ h => h) (Or.inl ⟨by rfl, fun w0 hSw => ?_⟩) hHeld ?_
  rotate_left
  · (try dsimp only at hSw)
    go_simp
    try with_reducible rfl
  simp only [Act.put, List.getElem_toArray, List.getElem_cons_succ, List.getElem_cons_zero, List.setIfInBounds_toArray, List.set_cons_zero, List.set_cons_succ]
  refine wpAnyH_take (i := 1) (v := ?_) rfl (by kernel_rfl) (by kernel_rfl) (by kernel_rfl) (fun _ _ _ h => h) (Or.inl ⟨by rfl, fun w0 hSw => ?_⟩) hHeld ?_
  rotate_left
  · (try dsimp only at hSw)
    go_simp
    try with_reducible rfl
  simp only [Act.put, List.getElem_toArray, List.getElem_cons_succ, List.getElem_cons_zero, List.setIfInBounds_toArray, List.set_cons_zero, List.set_cons_succ]
  refine wpAnyH_take (i := 4) (v := ?_) rfl (by kernel_rfl) (by kernel_rfl) (by kernel_rfl) (fun _ _ _ h => h) (Or.inl ⟨by rfl, fun w0 hSw => ?_⟩) hHeld ?_
  rotate_left
  · (try dsimp only at hSw)
    go_simp
    try with_reducible rfl
  simp only [Act.put, List.getElem_toArray, List.getElem_cons_succ, List.getElem_cons_zero, List.setIfInBounds_toArray, List.set_cons_zero, List.set_cons_succ]
  refine wpAnyH_take (i := 5) (v := ?_) rfl (by kernel_rfl) (by kernel_rfl) (by kernel_rfl) (fun _ _ _ h => h) (Or.inl ⟨by rfl, fun w0 hSw => ?_⟩) hHeld ?_
  rotate_left
  · (try dsimp only at hSw)
    go_simp
    try with_reducible rfl
  simp only [Act.put, List.getElem_toArray, List.getElem_cons_succ, List.getElem_cons_zero, List.setIfInBounds_toArray, List.set_cons_zero, List.set_cons_succ]
  refine wpAnyH_ready (rs := [2]) (by kernel_rfl) (by simp) ?_
  refine AllReadyH.cons (o := _) rfl (fun K hK => ?_) AllReadyH.nil
  go_simp
  go_at_call 27; refine (HI.out _ (Nat.lt_of_lt_of_le SZ.out b2.size)).mono ?_; rintro e w3 ⟨v3, rfl, b3, o3⟩; have O3 := Lib.hid o3; clear o3; (first | have XE := Ext.trans XE b3 | have XE := Ext.trans (Ext.trans XE (Ext.alloc _ _)) b3)
  go_wp2_with fail
  refine hK.out _ _ ((C1.out.ext XE).c6) (fun hHeld => ?_)
  clear hK K
  try simp only [Act.put, List.getElem_toArray, List.getElem_cons_succ, List.getElem_cons_zero, List.setIfInBounds_toArray, List.set_cons_zero, List.set_cons_succ]
  refine wpAnyH_ready (rs := [3]) (by kernel_rfl) (by simp) ?_
  refine AllReadyH.cons (o := _) rfl (fun K hK => ?_) AllReadyH.nil
  go_simp
  go_at_call 104; refine (HA.out _ w3 _ (Ext.trans b1 (Ext.trans b2 b3)) O3.out).mono ?_; rintro e w4 ⟨v4, rfl, b4, o4⟩; have O4 := Lib.hid o4; clear o4; (first | have XE := Ext.trans XE b4 | have XE := Ext.trans (Ext.trans XE (Ext.alloc _ _)) b4); obtain ⟨an4, cn4, ad4, cd4, rfl⟩ := Sv.shape O4.out
  go_wp2_with fail
  refine hK.out _ _ ((C1.out.ext XE).c6) (fun hHeld => ?_)
  clear hK K
  try simp only [Act.put, List.getElem_toArray, List.getElem_cons_succ, List.getElem_cons_zero, List.setIfInBounds_toArray, List.set_cons_zero, List.set_cons_succ]
  refine wpAnyH_ready (rs := [6]) (by kernel_rfl) (by simp) ?_
  refine AllReadyH.cons (o := _) rfl (fun K hK => ?_) AllReadyH.nil
  go_simp
  go_at_call 27; refine (HI.out _ (Nat.lt_of_lt_of_le SZ.out (Ext.trans b2 (Ext.trans b3 b4)).size)).mono ?_; rintro e w5 ⟨v5, rfl, b5, o5⟩; have O5 := Lib.hid o5; clear o5; (first | have XE := Ext.trans XE b5 | have XE := Ext.trans (Ext.trans XE (Ext.alloc _ _)) b5)
  go_wp2_with fail
  refine hK.out _ _ ((C1.out.ext XE).c6) (fun hHeld => ?_)
  clear hK K
  try simp only [Act.put, List.getElem_toArray, List.getElem_cons_succ, List.getElem_cons_zero, List.setIfInBounds_toArray, List.set_cons_zero, List.set_cons_succ]
  refine wpAnyH_ready (rs := [7]) (by kernel_rfl) (by simp) ?_
  refine AllReadyH.cons (o := _) rfl (fun K hK => ?_) AllReadyH.nil
  go_simp
  go_at_call 104; refine (HB.out _ w5 _ (Ext.trans b1 (Ext.trans b2 (Ext.trans b3 (Ext.trans b4 b5)))) O5.out).mono ?_; rintro e w6 ⟨v6, rfl, b6, o6⟩; have O6 := Lib.hid o6; clear o6; (first | have XE := Ext.trans XE b6 | have XE := Ext.trans (Ext.trans XE (Ext.alloc _ _)) b6); obtain ⟨an6, cn6, ad6, cd6, rfl⟩ := Sv.shape O6.out; obtain ⟨_, _, _, _, _, _, j0, j1, j2, j3, j4, j5, g0, g1, g2, g3, g4, g5⟩ := (RR.out.ext XE).c6
  go_wp2_with fail
  refine hK.out _ _ ((C1.out.ext XE).c6) (fun hHeld => ?_)
  clear hK K
  try simp only [Act.put, List.getElem_toArray, List.getElem_cons_succ, List.getElem_cons_zero, List.setIfInBounds_toArray, List.set_cons_zero, List.set_cons_succ]
  refine wpAnyH_take (i := 8) (v := ?_) rfl (by kernel_rfl) (by kernel_rfl) (by kernel_rfl) (fun _ _ _ h => h) (Or.inl ⟨by rfl, fun w0 hSw => ?_⟩) hHeld ?_
  rotate_left
  · (try dsimp only at hSw)
    go_simp
    try with_reducible rfl
  simp only [Act.put, List.getElem_toArray, List.getElem_cons_succ, List.getElem_cons_zero, List.setIfInBounds_toArray, List.set_cons_zero, List.set_cons_succ]
  refine wpAnyH_ready (rs := [9]) (by kernel_rfl) (by simp) ?_
  refine AllReadyH.cons (o := _) rfl (fun K hK => ?_) AllReadyH.nil
  go_simp
  refine hK.out _ _ (((C1.out.ext XE).put6 (by omega) _ _ _ _ _ _).c6) (fun hHeld => ?_)
  clear hK K
  try simp only [Act.put, List.getElem_toArray, List.getElem_cons_succ, List.getElem_cons_zero, List.setIfInBounds_toArray, List.set_cons_zero, List.set_cons_succ]
  refine wpAnyH_done (by kernel_rfl) ?_ _
  refine NoPanic.normal ?_
  go_wp2_with fail
  refine bodyPost_ret (v := .agg #[.bool (decide (A.num < 0)), .slice an4 (bitsOf A.num.natAbs).length cn4, .slice ad4 (bitsOf A.den).length cd4, .bool (decide (B.num < 0)), .slice an6 (bitsOf B.num.natAbs).length cn6, .slice ad6 (bitsOf B.den).length cd6]) (by simp [results, Try.results44, go_sem, j0, j1, j2, j3, j4, j5]) rfl ?_
  exact hR.out _ _ (Gives.mk (put6_below (Ext.trans b1 (Ext.trans b2 (Ext.trans b3 (Ext.trans b4 (Ext.trans b5 b6))))) (show w.heap.size ≤ w.heap.size + 1 by omega) _ _ _ _ _ _) ⟨_, _, _, _, _, _, rfl, (O4.out.ext (Ext.trans b5 b6)).2 _ (Ext.refl _) _ _ _ _ _ _, O6.out.2 _ (Ext.refl _) _ _ _ _ _ _⟩)
end Go.Proofs.Ytpeeacdnjbcmiaa
