/- attestlaw09.Told -/
import Derived.Test.YtnbbhpihlcglgaaPAtom2
import Derived.Test.YtnbbhpihlcglgaaAtomY
namespace Go.Proofs.Ytnbbhpihlcglgaa
open Go.RowKit Go.Att

abbrev OwnB9 (w : World) (v : Value) (p : AT) : Prop := OwnBt 4 173 w v p
set_option linter.unusedSimpArgs false in
set_option maxHeartbeats 4000000 in
set_option maxRecDepth 100000 in
theorem told9_any {w : World} {v : Value} {p : AT} (hv : OwnA w v p) (hs : Smx p.1.1 p.1.2) :
    Calls Try.prog 108 #[v] w (Gives w fun v' w' => OwnB9 w' v' p) := by
  refine via fun R hR => ?_
  obtain ⟨a, k, s, b, m, d, b', m', d', rfl, HX⟩ := hv.op
  have HTO : Hid (∀ w', Ext w w' → Calls Try.prog 33 #[.agg #[.slice a p.1.1.length k, .bool s, .slice b m d, .slice b' m' d']] w' (Gives w' fun v' w' => OwnY 0 w' v' p.1.1 p.1.2)) := fun w' x => (told8_any (HX.out.rd.ext x) (fun t ht => (hs.2.1 t ht).le (by decide)) (hs.2.2.le (by decide)) (by have := hs.1; omega)).mono fun _ _ ⟨v, e, b, o⟩ => ⟨v, e, b, o.mono (Nat.zero_le _)⟩
  clear hv hs HX
  obtain ⟨⟨la, ca⟩, op⟩ := p
  dsimp only at HTO ⊢
  obtain ⟨n, hn⟩ : ∃ n, la.length = n := ⟨_, rfl⟩
  rw [hn] at HTO ⊢
  clear hn
  obtain ⟨w1, hw1, b1, c1, c2, -, -, -⟩ := bx2 w [.slice a n k, .bool s, .slice b m d, .slice b' m' d', .int .i64 op] [.slice none 0 0, .bool false, .slice none 0 0, .slice none 0 0, .int .i64 0] 111 191
  have HW := Lib.hid hw1
  have C1 := Lib.hid c1
  have R2 : Hid (Rt w1 (w.heap.size + 1) 5 191) := by
    show Rt _ _ _ _
    rw [hw1]
    have := Rt.new (w.alloc (.cells #[.slice a n k, .bool s, .slice b m d, .slice b' m' d', .int .i64 op] 111)) [.slice none 0 0, .bool false, .slice none 0 0, .slice none 0 0, .int .i64 0] 191
    simpa using this
  clear c1 c2 hw1
  go_enter Try.func108, Try.ntmps108
  go_upto_region 1 with (fail)
  rw [← HW.out]
  clear HW
  have b2 := drew_ext w1
  have XE := b2
  refine wp_region_noPanic ?_
  refine wp_region_last_drew (st := 6) (S := fun w' => w'.cell? ⟨w.heap.size, 0, none⟩ = some (.slice a n k) ∧ w'.cell? ⟨w.heap.size, 1, none⟩ = some (.bool s) ∧ w'.cell? ⟨w.heap.size, 2, none⟩ = some (.slice b m d) ∧ w'.cell? ⟨w.heap.size, 3, none⟩ = some (.slice b' m' d') ∧ w'.cell? ⟨w.heap.size, 4, none⟩ = some (.int .i64 op)) (by kernel_rfl) ((C1.out.ext XE).c5) (fun hHeld => ?_)
  refine wpAnyL_take (i := 0) (v := ?_) rfl (by kernel_rfl) (by kernel_rfl) (by kernel_rfl) (by kernel_rfl) (fun _ _ _ h => h) (Or.inl ⟨by rfl, fun w0 hSw => ?_⟩) hHeld ?_
  rotate_left
  · (try dsimp only at hSw)
    go_simp
    try with_reducible rfl
  simp only [Act.put, List.getElem_toArray, List.getElem_cons_succ, List.getElem_cons_zero, List.setIfInBounds_toArray, List.set_cons_zero, List.set_cons_succ]
  refine wpAnyL_take (i := 1) (v := ?_) rfl (by kernel_rfl) (by kernel_rfl) (by kernel_rfl) (by kernel_rfl) (fun _ _ _ h => h) (Or.inl ⟨by rfl, fun w0 hSw => ?_⟩) hHeld ?_
  rotate_left
  · (try dsimp only at hSw)
    go_simp
    try with_reducible rfl
  simp only [Act.put, List.getElem_toArray, List.getElem_cons_succ, List.getElem_cons_zero, List.setIfInBounds_toArray, List.set_cons_zero, List.set_cons_succ]
  refine wpAnyL_take (i := 3) (v := ?_) rfl (by kernel_rfl) (by kernel_rfl) (by kernel_rfl) (by kernel_rfl) (fun _ _ _ h => h) (Or.inl ⟨by rfl, fun w0 hSw => ?_⟩) hHeld ?_
  rotate_left
  · (try dsimp only at hSw)
    go_simp
    try with_reducible rfl
  simp only [Act.put, List.getElem_toArray, List.getElem_cons_succ, List.getElem_cons_zero, List.setIfInBounds_toArray, List.set_cons_zero, List.set_cons_succ]
  refine wpAnyL_take (i := 4) (v := ?_) rfl (by kernel_rfl) (by kernel_rfl) (by kernel_rfl) (by kernel_rfl) (fun _ _ _ h => h) (Or.inl ⟨by rfl, fun w0 hSw => ?_⟩) hHeld ?_
  rotate_left
  · (try dsimp only at hSw)
    go_simp
    try with_reducible rfl
  simp only [Act.put, List.getElem_toArray, List.getElem_cons_succ, List.getElem_cons_zero, List.setIfInBounds_toArray, List.set_cons_zero, List.set_cons_succ]
  refine wpAnyL_ready (rs := [2]) (by kernel_rfl) (by simp) ?_
  refine AllReadyL.cons (o := _) rfl (fun K hK => ?_) AllReadyL.nil
  go_simp
  go_at_call 33; refine (HTO.out _ (Ext.trans b1 XE)).mono ?_; rintro e w3 ⟨v3, rfl, b3, o3⟩; have O3 := Lib.hid o3; clear o3; (first | have XE := Ext.trans XE b3 | have XE := Ext.trans (Ext.trans XE (Ext.alloc _ _)) b3); obtain ⟨a3, k3, s3, d3, m3, e3, d4, m4, e4, rfl, -, -, O4⟩ := OwnEy.op O3.out
  go_wp2_with fail
  refine hK.out _ _ ((C1.out.ext XE).c5) (fun hHeld => ?_)
  clear hK K
  try simp only [Act.put, List.getElem_toArray, List.getElem_cons_succ, List.getElem_cons_zero, List.setIfInBounds_toArray, List.set_cons_zero, List.set_cons_succ]
  refine wpAnyL_take (i := 5) (v := ?_) rfl (by kernel_rfl) (by kernel_rfl) (by kernel_rfl) (by kernel_rfl) (fun _ _ _ h => h) (Or.inl ⟨by rfl, fun w0 hSw => ?_⟩) hHeld ?_
  rotate_left
  · (try dsimp only at hSw)
    go_simp
    try with_reducible rfl
  simp only [Act.put, List.getElem_toArray, List.getElem_cons_succ, List.getElem_cons_zero, List.setIfInBounds_toArray, List.set_cons_zero, List.set_cons_succ]
  obtain ⟨_, _, _, _, _, j0, j1, j2, j3, j4, i0, i1, i2, i3, i4⟩ := (R2.out.ext XE).c5
  refine wpAnyL_ready (rs := [6]) (by kernel_rfl) (by simp) ?_
  refine AllReadyL.last (o := _) rfl (fun K hK => ?_)
  go_simp
  refine hK.out _ _ ?_
  clear hK K
  try simp only [Act.put, List.getElem_toArray, List.getElem_cons_succ, List.getElem_cons_zero, List.setIfInBounds_toArray, List.set_cons_zero, List.set_cons_succ]
  refine wpAnyL_done (by kernel_rfl) ?_ _
  refine NoPanic.normal ?_
  go_wp2_with fail
  refine bodyPost_ret (v := .agg #[.slice a3 la.length k3, .bool s3, .slice d3 m3 e3, .slice d4 m4 e4, .int .i64 op]) (by simp [results, Try.results108, go_sem, j0, j1, j2, j3, j4]) rfl ?_
  exact hR.out _ _ (Gives.mk (put5_below (Ext.trans b1 XE) (by omega) _ _ _ _ _) ⟨_, _, _, _, rfl, O4.out.putT (R2.out.ext XE) (by decide) (by decide) 0 [_, _, _, _, _]⟩)
end Go.Proofs.Ytnbbhpihlcglgaa
