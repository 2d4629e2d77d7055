/- attestlaw09.Of, attestlaw20.Atoms, atom.Holds -/
import Derived.Test.YtnbbhpihlcglgaaPAtom
namespace Go.Proofs.Ytnbbhpihlcglgaa
open Go.RowKit Go.Att

theorem put5_below {w0 w : World} {B : Nat} (h : Ext w0 w) (hB : w0.heap.size ≤ B) (x0 x1 x2 x3 x4 : Value) : Ext w0 (((((w.setCell ⟨B, 0, none⟩ x0).setCell ⟨B, 1, none⟩ x1).setCell ⟨B, 2, none⟩ x2).setCell ⟨B, 3, none⟩ x3).setCell ⟨B, 4, none⟩ x4) := putL_below hB [x0, x1, x2, x3, x4] 0 h
set_option linter.unusedSimpArgs false in
set_option maxHeartbeats 4000000 in
set_option maxRecDepth 100000 in
theorem of9_any {w : World} {v : Value} {p : NAT} (hv : RdNA w v p) (hs : ∀ t ∈ p.1.1, Nlt 1000000000 t.2) (hn : Nlt 1000000000 p.1.2) :
    Calls Try.prog 106 #[v] w (Gives w fun v' w' => OwnA w' v' (atA p)) := by
  refine via fun R hR => ?_
  obtain ⟨a, k, y, z, rfl, hE⟩ := hv.op
  have HEX : Hid (∀ w', Ext w w' → Calls Try.prog 31 #[.agg #[.slice a p.1.1.length k, .bool p.1.2.1, y, z]] w' (Gives w' fun v' w' => OwnX 0 w' v' (tL p.1.1) (qN p.1.2))) := fun w' x => expr8_sm (hE.ext x) hs hn
  clear hv hs hn hE
  unfold atA at hR
  generalize tL p.1.1 = la at *
  generalize qN p.1.2 = ca at *
  generalize p.2 = op at *
  generalize p.1.2.1 = sg at *
  generalize p.1.1.length = n0 at *
  obtain ⟨w1, hw1, b1, c1, c2, -, -, -⟩ := bx2 w [.slice a n0 k, .bool sg, y, z, .int .i64 op] [.slice none 0 0, .bool false, .slice none 0 0, .slice none 0 0, .int .i64 0] 188 111
  have HW := Lib.hid hw1
  have C1 := Lib.hid c1
  have R2 : Hid (Rt w1 (w.heap.size + 1) 5 111) := by
    show Rt _ _ _ _
    rw [hw1]
    have := Rt.new (w.alloc (.cells #[.slice a n0 k, .bool sg, y, z, .int .i64 op] 188)) [.slice none 0 0, .bool false, .slice none 0 0, .slice none 0 0, .int .i64 0] 111
    simpa using this
  clear c1 c2 hw1
  go_enter Try.func106, Try.ntmps106
  go_upto_region 1 with (fail)
  rw [← HW.out]
  clear HW
  have b2 := drew_ext w1
  have XE := b2
  refine wp_region_noPanic ?_
  refine wp_region_last_drew (st := 6) (S := fun w' => w'.cell? ⟨w.heap.size, 0, none⟩ = some (.slice a n0 k) ∧ w'.cell? ⟨w.heap.size, 1, none⟩ = some (.bool sg) ∧ w'.cell? ⟨w.heap.size, 2, none⟩ = some (y) ∧ w'.cell? ⟨w.heap.size, 3, none⟩ = some (z) ∧ w'.cell? ⟨w.heap.size, 4, none⟩ = some (.int .i64 op)) (by kernel_rfl) ((C1.out.ext XE).c5) (fun hHeld => ?_)
  refine wpAnyL_take (i := 0) (v := ?_) rfl (by kernel_rfl) (by kernel_rfl) (by kernel_rfl) (by kernel_rfl) (fun _ _ _ h => h) (Or.inl ⟨by rfl, fun w0 hSw => ?_⟩) hHeld ?_
  rotate_left
  · (try dsimp only at hSw)
    go_simp
    try with_reducible rfl
  simp only [Act.put, List.getElem_toArray, List.getElem_cons_succ, List.getElem_cons_zero, List.setIfInBounds_toArray, List.set_cons_zero, List.set_cons_succ]
  refine wpAnyL_take (i := 1) (v := ?_) rfl (by kernel_rfl) (by kernel_rfl) (by kernel_rfl) (by kernel_rfl) (fun _ _ _ h => h) (Or.inl ⟨by rfl, fun w0 hSw => ?_⟩) hHeld ?_
  rotate_left
  · (try dsimp only at hSw)
    go_simp
    try with_reducible rfl
  simp only [Act.put, List.getElem_toArray, List.getElem_cons_succ, List.getElem_cons_zero, List.setIfInBounds_toArray, List.set_cons_zero, List.set_cons_succ]
  refine wpAnyL_take (i := 3) (v := ?_) rfl (by kernel_rfl) (by kernel_rfl) (by kernel_rfl) (by kernel_rfl) (fun _ _ _ h => h) (Or.inl ⟨by rfl, fun w0 hSw => ?_⟩) hHeld ?_
  rotate_left
  · (try dsimp only at hSw)
    go_simp
    try with_reducible rfl
  simp only [Act.put, List.getElem_toArray, List.getElem_cons_succ, List.getElem_cons_zero, List.setIfInBounds_toArray, List.set_cons_zero, List.set_cons_succ]
  refine wpAnyL_take (i := 4) (v := ?_) rfl (by kernel_rfl) (by kernel_rfl) (by kernel_rfl) (by kernel_rfl) (fun _ _ _ h => h) (Or.inl ⟨by rfl, fun w0 hSw => ?_⟩) hHeld ?_
  rotate_left
  · (try dsimp only at hSw)
    go_simp
    try with_reducible rfl
  simp only [Act.put, List.getElem_toArray, List.getElem_cons_succ, List.getElem_cons_zero, List.setIfInBounds_toArray, List.set_cons_zero, List.set_cons_succ]
  refine wpAnyL_ready (rs := [2]) (by kernel_rfl) (by simp) ?_
  refine AllReadyL.cons (o := _) rfl (fun K hK => ?_) AllReadyL.nil
  go_simp
  go_at_call 31; refine (HEX.out _ (Ext.trans b1 XE)).mono ?_; rintro e w3 ⟨v3, rfl, b3, o3⟩; have O3 := Lib.hid o3; clear o3; (first | have XE := Ext.trans XE b3 | have XE := Ext.trans (Ext.trans XE (Ext.alloc _ _)) b3); obtain ⟨a3, k3, s3, d3, m3, e3, d4, m4, e4, rfl, -, -, O4⟩ := OwnEx.op O3.out
  go_wp2_with fail
  refine hK.out _ _ ((C1.out.ext XE).c5) (fun hHeld => ?_)
  clear hK K
  try simp only [Act.put, List.getElem_toArray, List.getElem_cons_succ, List.getElem_cons_zero, List.setIfInBounds_toArray, List.set_cons_zero, List.set_cons_succ]
  refine wpAnyL_take (i := 5) (v := ?_) rfl (by kernel_rfl) (by kernel_rfl) (by kernel_rfl) (by kernel_rfl) (fun _ _ _ h => h) (Or.inl ⟨by rfl, fun w0 hSw => ?_⟩) hHeld ?_
  rotate_left
  · (try dsimp only at hSw)
    go_simp
    try with_reducible rfl
  simp only [Act.put, List.getElem_toArray, List.getElem_cons_succ, List.getElem_cons_zero, List.setIfInBounds_toArray, List.set_cons_zero, List.set_cons_succ]
  obtain ⟨_, _, _, _, _, j0, j1, j2, j3, j4, i0, i1, i2, i3, i4⟩ := (R2.out.ext XE).c5
  refine wpAnyL_ready (rs := [6]) (by kernel_rfl) (by simp) ?_
  refine AllReadyL.last (o := _) rfl (fun K hK => ?_)
  go_simp
  refine hK.out _ _ ?_
  clear hK K
  try simp only [Act.put, List.getElem_toArray, List.getElem_cons_succ, List.getElem_cons_zero, List.setIfInBounds_toArray, List.set_cons_zero, List.set_cons_succ]
  refine wpAnyL_done (by kernel_rfl) ?_ _
  refine NoPanic.normal ?_
  go_wp2_with fail
  refine bodyPost_ret (v := .agg #[.slice a3 la.length k3, .bool s3, .slice d3 m3 e3, .slice d4 m4 e4, .int .i64 op]) (by simp [results, Try.results106, go_sem, j0, j1, j2, j3, j4]) rfl ?_
  exact hR.out _ _ (Gives.mk (put5_below (Ext.trans b1 XE) (by omega) _ _ _ _ _) ⟨_, _, _, _, rfl, O4.out.putT (R2.out.ext XE) (by decide) (by decide) 0 [_, _, _, _, _]⟩)
theorem etAt : ElemT Try.prog 98 111 (.agg #[.slice none 0 0, .bool false, .slice none 0 0, .slice none 0 0, .int .i64 0]) 5 88 := ElemT.mk' Try.underlying98 (by kernel_rfl) rfl (by decide)
set_option maxRecDepth 100000 in
set_option maxHeartbeats 4000000 in
set_option linter.unusedSimpArgs false in
theorem atoms_any {w : World} {v : Value} {l : List NAT} (hv : RdRow 5 RdNA w v l) (hs : ∀ p ∈ l, (∀ t ∈ p.1.1, Nlt 1000000000 t.2) ∧ Nlt 1000000000 p.1.2) :
    Calls Try.prog 54 #[v] w (Gives w fun v' w' => OwnRow 5 OwnA 111 w.heap.size w' v' ((l.take 10).map atA)) := by
  refine via fun R hR => ?_
  have HS := Lib.hid hs
  obtain ⟨a, c, rfl, hlc, hcm⟩ := hv.shape
  have HV := Lib.hid hv
  unfold maxLen at hcm
  clear hv hs
  go_enter Try.func54, Try.ntmps54
  go_wp2_with fail
  go_loopw [3, 4] (fun o i wr => ∃ k : Nat, i = .int .i64 k ∧ k ≤ l.length ∧ k ≤ 10 ∧ Ext w wr ∧ Hid (OwnRow 5 OwnA 111 w.heap.size wr o ((l.take k).map atA))) (fun _ i _ => 10 - (intOf i).toNat)
  case atStart => exact ⟨0, rfl, Nat.zero_le _, Nat.zero_le _, Ext.alloc _ _, by rw [List.take_zero]; exact OwnRow.nilLit _ (Nat.le_refl _)⟩
  case round =>
    obtain ⟨k, rfl, hk, hk2, hx, hO⟩ := hrel
    have hsz := hx.size
    by_cases hlt : k < l.length
    · by_cases h34 : k < 10
      · obtain ⟨b, off, cs, rfl, hcl, hT, hc⟩ := HV.out.at (by decide) k hlt
        obtain ⟨xa, xk, xy, xz, he, -⟩ := hT.op
        have hcs : cs = [.slice xa l[k].1.1.length xk, .bool l[k].1.2.1, xy, xz, .int .i64 l[k].2] := by simpa using he
        subst hcs
        have e0 := Ext.cell hx (hc 0 (by decide))
        have e1 := Ext.cell hx (hc 1 (by decide))
        have e2 := Ext.cell hx (hc 2 (by decide))
        have e3 := Ext.cell hx (hc 3 (by decide))
        have e4 := Ext.cell hx (hc 4 (by decide))
        have HSN := Lib.hid (take_map_snoc atA hlt)
        have HOF : Hid (Calls Try.prog 106 #[.agg #[.slice xa l[k].1.1.length xk, .bool l[k].1.2.1, xy, xz, .int .i64 l[k].2]] wr (Gives wr fun v' w' => OwnA w' v' (atA l[k]))) := of9_any (RdNA.ext hT hx) (HS.out l[k] (List.getElem_mem hlt)).1 (HS.out l[k] (List.getElem_mem hlt)).2
        simp only [List.getElem?_cons_zero, List.getElem?_cons_succ, Nat.add_zero] at e0 e1 e2 e3 e4
        have HKL : Hid (((l.take k).map atA).length ≤ 10) := by show _ ≤ _; simp; omega
        clear hT hc he hcl
        generalize atA l[k] = q at *
        generalize l[k].1.1.length = n1 at *
        generalize l[k].1.2.1 = s1 at *
        generalize l[k].2 = o1 at *
        go_wp2_with fail
        refine HOF.out.mono ?_
        rintro e w1 ⟨_, rfl, b1, h1⟩
        clear e0 e1 e2 e3 e4
        obtain ⟨a2, k2, s2, b2, m2, d2, b2', m2', d2', rfl, O1⟩ := h1.op
        have HQ1 := Lib.hid h1
        have hO1 := Lib.hid (hO.out.ext OwnAt.ext b1)
        have b01 := hx.trans b1
        clear h1 hO
        go_wp2_with (at_builtin; refine append_rowL (y := q) etAt (kdAt (by decide) (by decide)) (by rfl) _ _ (by rfl) w.heap.size (by rfl) _ (by rfl) hO1.out rfl HQ1.out (Below.size b01) (by have := HKL.out; omega) (by unfold maxLen; have := HKL.out; omega) ?_; intro v9 w9 o9 b9 g9)
        go_roundw
        case rel =>
          refine ⟨k + 1, by go_num, by omega, by omega, Below.trans b01 b9, ?_⟩
          rw [HSN.out]
          exact o9
        case measure => simp [intOf] <;> omega
      · obtain rfl : k = 10 := by omega
        go_wp2_with fail
        exact hR.out _ _ (Gives.mk hx hO.out)
    · obtain rfl : k = l.length := by omega
      have HX : Hid ((l.take l.length).map atA = (l.take 10).map atA) := by show _ = _; rw [List.take_length, List.take_of_length_le hk2]
      go_wp2_with fail
      exact hR.out _ _ (Gives.mk hx (by rw [← HX.out]; exact hO.out))
end Go.Proofs.Ytnbbhpihlcglgaa
