/- attestlaw07.both: what it makes is new -/
import Derived.Test.YtpeeacdnjbcmiaaPDelta
import Derived.Test.YtpeeacdnjbcmiaaPBoth05
import Derived.Test.YtpeeacdnjbcmiaaAppK
namespace Go.Proofs.Ytpeeacdnjbcmiaa
open Go.RowKit Go.Att

set_option maxHeartbeats 4000000 in
set_option linter.unusedSimpArgs false in
theorem both07o {w : World} {v : Value} {s s' : Bool} {xs ys xs' ys' : List Nat} (hv : RdND w v s xs ys s' xs' ys') (hx : xs.length ≤ 1000000000) (hy : ys.length ≤ 1000000000) (hx' : xs'.length ≤ 1000000000) (hy' : ys'.length ≤ 1000000000) :
    Calls Try.prog 15 #[v] w (Gives w fun v' w' => ∃ o1 o2, v' = .tuple #[o1, o2] ∧ OwnD 148 0 w' o1 (qOf s xs ys) (qOf s' xs' ys') ∧ OwnE 4 0 w' o2 (qOf s xs ys) (qOf s' xs' ys')) := by
  refine via fun R hR => ?_
  obtain ⟨x0, x1, x2, x3, x4, x5, rfl, h1, h2⟩ := hv
  have HA := Lib.hid h1
  have HB := Lib.hid h2
  obtain ⟨w1, hw1, b1, c1, -, -, -, r2, r3, -⟩ := bx3 w [x0, x1, x2, x3, x4, x5] [.bool false, .slice none 0 0, .slice none 0 0, .bool false, .slice none 0 0, .slice none 0 0] [.bool false, .slice none 0 0, .slice none 0 0, .bool false, .slice none 0 0, .slice none 0 0] 26 30 35
  have C1 := Lib.hid c1
  have R2 : Hid (Rm w1 (w.heap.size + 1) 6) := r2
  have R3 : Hid (Rm w1 (w.heap.size + 1 + 1) 6) := r3
  have HW := Lib.hid hw1
  obtain ⟨k0, k1, k2, k3, k4, k5⟩ := c1.c6
  clear h1 h2 c1 r2 r3 hw1
  go_enter Try.func15, Try.ntmps15
  go_upto_region 1 with (fail)
  rw [← HW.out]
  clear HW
  go_wp2_with fail
  clear k0 k1 k2 k3 k4 k5
  refine (both_any (HA.out.ext b1) (by omega) (by omega)).mono ?_
  rintro e w2 ⟨_, rfl, b2, _, _, rfl, ⟨n, d, rfl, on, od⟩, ⟨m, c, rfl, om, oc⟩⟩
  obtain ⟨an2, cn2, rfl, -, -, -, -⟩ := on.rd.1.shape
  obtain ⟨ad2, cd2, rfl, -, -, -, -⟩ := od.rd.1.shape
  obtain ⟨am2, cm2, rfl, -, -, -, -⟩ := om.rd.shape
  obtain ⟨ac2, cc2, rfl, -, -, -, -⟩ := oc.rd.shape
  obtain ⟨w3, hw, b3, c1, c2, -⟩ := box2 w2 (.bool (decide ((qOf s xs ys).num < 0))) (.slice an2 (limbs (qOf s xs ys).num.natAbs).length cn2) (.slice ad2 (dens (qOf s xs ys).den).length cd2) (.bool (decide ((qOf s xs ys).num < 0))) (.slice am2 (bitsOf (qOf s xs ys).num.natAbs).length cm2) (.slice ac2 (bitsOf (qOf s xs ys).den).length cc2) 28 33
  have HW := Lib.hid hw
  have CQ2 := Lib.hid c1
  have CP2 := Lib.hid c2
  have ON2 := Lib.hid on
  have OD2 := Lib.hid od
  have OM2 := Lib.hid om
  have OC2 := Lib.hid oc
  clear hw c1 c2 on od om oc
  go_upto_region 2 with (fail)
  rw [← HW.out]
  clear HW
  obtain ⟨k0, k1, k2, k3, k4, k5⟩ := (C1.out.ext (Ext.trans b2 b3)).c6
  go_wp2_with fail
  clear k0 k1 k2 k3 k4 k5
  refine (both_any (HB.out.ext (Ext.trans b1 (Ext.trans b2 b3))) (by omega) (by omega)).mono ?_
  rintro e w4 ⟨_, rfl, b4, _, _, rfl, ⟨n, d, rfl, on, od⟩, ⟨m, c, rfl, om, oc⟩⟩
  obtain ⟨an4, cn4, rfl, -, -, -, -⟩ := on.rd.1.shape
  obtain ⟨ad4, cd4, rfl, -, -, -, -⟩ := od.rd.1.shape
  obtain ⟨am4, cm4, rfl, -, -, -, -⟩ := om.rd.shape
  obtain ⟨ac4, cc4, rfl, -, -, -, -⟩ := oc.rd.shape
  obtain ⟨w5, hw, b5, c1, c2, -⟩ := box2 w4 (.bool (decide ((qOf s' xs' ys').num < 0))) (.slice an4 (limbs (qOf s' xs' ys').num.natAbs).length cn4) (.slice ad4 (dens (qOf s' xs' ys').den).length cd4) (.bool (decide ((qOf s' xs' ys').num < 0))) (.slice am4 (bitsOf (qOf s' xs' ys').num.natAbs).length cm4) (.slice ac4 (bitsOf (qOf s' xs' ys').den).length cc4) 28 33
  have HW := Lib.hid hw
  have CQ4 := Lib.hid c1
  have CP4 := Lib.hid c2
  have ON4 := Lib.hid on
  have OD4 := Lib.hid od
  have OM4 := Lib.hid om
  have OC4 := Lib.hid oc
  clear hw c1 c2 on od om oc
  go_upto_region 3 with (fail)
  rw [← HW.out]
  clear HW
  have D2 := Lib.hid (CQ2.out.ext (Ext.trans b4 b5))
  have D3 := Lib.hid (CP2.out.ext (Ext.trans b4 b5))
  have SZ := Lib.hid R3.out.lt
  have SZ3 := Lib.hid (World.block_lt_of_cell? _ _ CQ2.out.1)
  have SA := Lib.hid b2.size
  have SB := Lib.hid (Ext.trans b2 (Ext.trans b3 b4)).size
  obtain ⟨_, _, _, _, _, _, j0, j1, j2, j3, j4, j5, g0, g1, g2, g3, g4, g5⟩ := (R2.out.ext (Ext.trans b2 (Ext.trans b3 (Ext.trans b4 b5)))).c6
  obtain ⟨_, _, _, _, _, _, i0, i1, i2, i3, i4, i5, f0, f1, f2, f3, f4, f5⟩ := (R3.out.ext (Ext.trans b2 (Ext.trans b3 (Ext.trans b4 b5)))).c6
  have b6 := drew_ext w5
  have XE := b6
  refine wp_region_noPanic ?_
  refine wp_region_held_drew (S := fun w' => (w'.cell? ⟨w2.heap.size, 0, none⟩ = some (.bool (decide ((qOf s xs ys).num < 0))) ∧ w'.cell? ⟨w2.heap.size, 1, none⟩ = some (.slice an2 (limbs (qOf s xs ys).num.natAbs).length cn2) ∧ w'.cell? ⟨w2.heap.size, 2, none⟩ = some (.slice ad2 (dens (qOf s xs ys).den).length cd2)) ∧ (w'.cell? ⟨w2.heap.size + 1, 0, none⟩ = some (.bool (decide ((qOf s xs ys).num < 0))) ∧ w'.cell? ⟨w2.heap.size + 1, 1, none⟩ = some (.slice am2 (bitsOf (qOf s xs ys).num.natAbs).length cm2) ∧ w'.cell? ⟨w2.heap.size + 1, 2, none⟩ = some (.slice ac2 (bitsOf (qOf s xs ys).den).length cc2)) ∧ (w'.cell? ⟨w4.heap.size, 0, none⟩ = some (.bool (decide ((qOf s' xs' ys').num < 0))) ∧ w'.cell? ⟨w4.heap.size, 1, none⟩ = some (.slice an4 (limbs (qOf s' xs' ys').num.natAbs).length cn4) ∧ w'.cell? ⟨w4.heap.size, 2, none⟩ = some (.slice ad4 (dens (qOf s' xs' ys').den).length cd4)) ∧ (w'.cell? ⟨w4.heap.size + 1, 0, none⟩ = some (.bool (decide ((qOf s' xs' ys').num < 0))) ∧ w'.cell? ⟨w4.heap.size + 1, 1, none⟩ = some (.slice am4 (bitsOf (qOf s' xs' ys').num.natAbs).length cm4) ∧ w'.cell? ⟨w4.heap.size + 1, 2, none⟩ = some (.slice ac4 (bitsOf (qOf s' xs' ys').den).length cc4))) (by kernel_rfl) (⟨D2.out.ext XE, D3.out.ext XE, CQ4.out.ext XE, CP4.out.ext XE⟩) (fun hHeld => ?_)
  refine wpAnyH_take (i := 0) (v := ?_) rfl (by kernel_rfl) (by kernel_rfl) (by kernel_rfl) (fun _ _ _ h => h) (Or.inl ⟨by rfl, fun w0 hSw => ?_⟩) hHeld ?_
  rotate_left
  · (try dsimp only at hSw)
    go_simp
    try with_reducible rfl
  simp only [Act.put, List.getElem_toArray, List.getElem_cons_succ, List.getElem_cons_zero, List.setIfInBounds_toArray, List.set_cons_zero, List.set_cons_succ]
  refine wpAnyH_take (i := 1) (v := ?_) rfl (by kernel_rfl) (by kernel_rfl) (by kernel_rfl) (fun _ _ _ h => h) (Or.inl ⟨by rfl, fun w0 hSw => ?_⟩) hHeld ?_
  rotate_left
  · (try dsimp only at hSw)
    go_simp
    try with_reducible rfl
  simp only [Act.put, List.getElem_toArray, List.getElem_cons_succ, List.getElem_cons_zero, List.setIfInBounds_toArray, List.set_cons_zero, List.set_cons_succ]
  refine wpAnyH_take (i := 2) (v := ?_) rfl (by kernel_rfl) (by kernel_rfl) (by kernel_rfl) (fun _ _ _ h => h) (Or.inl ⟨by rfl, fun w0 hSw => ?_⟩) hHeld ?_
  rotate_left
  · (try dsimp only at hSw)
    go_simp
    try with_reducible rfl
  simp only [Act.put, List.getElem_toArray, List.getElem_cons_succ, List.getElem_cons_zero, List.setIfInBounds_toArray, List.set_cons_zero, List.set_cons_succ]
  refine wpAnyH_take (i := 3) (v := ?_) rfl (by kernel_rfl) (by kernel_rfl) (by kernel_rfl) (fun _ _ _ h => h) (Or.inl ⟨by rfl, fun w0 hSw => ?_⟩) hHeld ?_
  rotate_left
  · (try dsimp only at hSw)
    go_simp
    try with_reducible rfl
  simp only [Act.put, List.getElem_toArray, List.getElem_cons_succ, List.getElem_cons_zero, List.setIfInBounds_toArray, List.set_cons_zero, List.set_cons_succ]
  refine wpAnyH_take (i := 4) (v := ?_) rfl (by kernel_rfl) (by kernel_rfl) (by kernel_rfl) (fun _ _ _ h => h) (Or.inl ⟨by rfl, fun w0 hSw => ?_⟩) hHeld ?_
  rotate_left
  · (try dsimp only at hSw)
    go_simp
    try with_reducible rfl
  simp only [Act.put, List.getElem_toArray, List.getElem_cons_succ, List.getElem_cons_zero, List.setIfInBounds_toArray, List.set_cons_zero, List.set_cons_succ]
  refine wpAnyH_take (i := 5) (v := ?_) rfl (by kernel_rfl) (by kernel_rfl) (by kernel_rfl) (fun _ _ _ h => h) (Or.inl ⟨by rfl, fun w0 hSw => ?_⟩) hHeld ?_
  rotate_left
  · (try dsimp only at hSw)
    go_simp
    try with_reducible rfl
  simp only [Act.put, List.getElem_toArray, List.getElem_cons_succ, List.getElem_cons_zero, List.setIfInBounds_toArray, List.set_cons_zero, List.set_cons_succ]
  refine wpAnyH_ready (rs := [6]) (by kernel_rfl) (by simp) ?_
  refine AllReadyH.cons (o := _) rfl (fun K hK => ?_) AllReadyH.nil
  go_simp
  refine hK.out _ _ (⟨(D2.out.put6 (c := w.heap.size + 1) (by have := SZ.out; have := SA.out; omega) _ _ _ _ _ _).drew, (D3.out.put6 (c := w.heap.size + 1) (by have := SZ.out; have := SA.out; omega) _ _ _ _ _ _).drew, (CQ4.out.put6 (c := w.heap.size + 1) (by have := SZ.out; have := SB.out; omega) _ _ _ _ _ _).drew, (CP4.out.put6 (c := w.heap.size + 1) (by have := SZ.out; have := SB.out; omega) _ _ _ _ _ _).drew⟩) (fun hHeld => ?_)
  clear hK K
  try simp only [Act.put, List.getElem_toArray, List.getElem_cons_succ, List.getElem_cons_zero, List.setIfInBounds_toArray, List.set_cons_zero, List.set_cons_succ]
  refine wpAnyH_ready (rs := [7]) (by kernel_rfl) (by simp) ?_
  refine AllReadyH.cons (o := _) rfl (fun K hK => ?_) AllReadyH.nil
  go_simp
  refine hK.out _ _ (⟨((D2.out.put6 (c := w.heap.size + 1) (by have := SZ.out; have := SA.out; omega) _ _ _ _ _ _).put6 (c := w.heap.size + 1 + 1) (by have := SZ.out; have := SA.out; omega) _ _ _ _ _ _).drew, ((D3.out.put6 (c := w.heap.size + 1) (by have := SZ.out; have := SA.out; omega) _ _ _ _ _ _).put6 (c := w.heap.size + 1 + 1) (by have := SZ.out; have := SA.out; omega) _ _ _ _ _ _).drew, ((CQ4.out.put6 (c := w.heap.size + 1) (by have := SZ.out; have := SB.out; omega) _ _ _ _ _ _).put6 (c := w.heap.size + 1 + 1) (by have := SZ.out; have := SB.out; omega) _ _ _ _ _ _).drew, ((CP4.out.put6 (c := w.heap.size + 1) (by have := SZ.out; have := SB.out; omega) _ _ _ _ _ _).put6 (c := w.heap.size + 1 + 1) (by have := SZ.out; have := SB.out; omega) _ _ _ _ _ _).drew⟩) (fun hHeld => ?_)
  clear hK K
  try simp only [Act.put, List.getElem_toArray, List.getElem_cons_succ, List.getElem_cons_zero, List.setIfInBounds_toArray, List.set_cons_zero, List.set_cons_succ]
  refine wpAnyH_done (by kernel_rfl) ?_ _
  refine NoPanic.normal ?_
  go_wp2_with fail
  refine bodyPost_ret (v := .tuple #[.agg #[.bool (decide ((qOf s xs ys).num < 0)), .slice an2 (limbs (qOf s xs ys).num.natAbs).length cn2, .slice ad2 (dens (qOf s xs ys).den).length cd2, .bool (decide ((qOf s' xs' ys').num < 0)), .slice an4 (limbs (qOf s' xs' ys').num.natAbs).length cn4, .slice ad4 (dens (qOf s' xs' ys').den).length cd4],
    .agg #[.bool (decide ((qOf s xs ys).num < 0)), .slice am2 (bitsOf (qOf s xs ys).num.natAbs).length cm2, .slice ac2 (bitsOf (qOf s xs ys).den).length cc2, .bool (decide ((qOf s' xs' ys').num < 0)), .slice am4 (bitsOf (qOf s' xs' ys').num.natAbs).length cm4, .slice ac4 (bitsOf (qOf s' xs' ys').den).length cc4]]) (by simp [results, Try.results15, go_sem, j0, j1, j2, j3, j4, j5, i0, i1, i2, i3, i4, i5]) rfl ?_
  have SZ' := SZ.out
  have SB' := (Ext.trans b2 b3).size
  exact hR.out _ _ (Gives.mk (Ext.trans (put6_below (put6_below (Ext.trans b1 (Ext.trans b2 (Ext.trans b3 (Ext.trans b4 b5)))) (by omega) _ _ _ _ _ _) (by omega) _ _ _ _ _ _) (drew_ext _)) ⟨_, _, rfl, ⟨_, _, _, _, rfl, (((ON2.out.put6 (Ext.trans b3 (Ext.trans b4 b5)) (by omega) _ _ _ _ _ _).put6 (Ext.refl _) (by omega) _ _ _ _ _ _).ext (drew_ext _)).mono (Nat.zero_le _), (((OD2.out.put6 (Ext.trans b3 (Ext.trans b4 b5)) (by omega) _ _ _ _ _ _).put6 (Ext.refl _) (by omega) _ _ _ _ _ _).ext (drew_ext _)).mono (Nat.zero_le _), (((ON4.out.put6 b5 (by omega) _ _ _ _ _ _).put6 (Ext.refl _) (by omega) _ _ _ _ _ _).ext (drew_ext _)).mono (Nat.zero_le _), (((OD4.out.put6 b5 (by omega) _ _ _ _ _ _).put6 (Ext.refl _) (by omega) _ _ _ _ _ _).ext (drew_ext _)).mono (Nat.zero_le _)⟩, ⟨_, _, _, _, rfl, (((OM2.out.put6 (Ext.trans b3 (Ext.trans b4 b5)) (by omega) _ _ _ _ _ _).put6 (Ext.refl _) (by omega) _ _ _ _ _ _).ext (drew_ext _)).mono (Nat.zero_le _), (((OC2.out.put6 (Ext.trans b3 (Ext.trans b4 b5)) (by omega) _ _ _ _ _ _).put6 (Ext.refl _) (by omega) _ _ _ _ _ _).ext (drew_ext _)).mono (Nat.zero_le _), (((OM4.out.put6 b5 (by omega) _ _ _ _ _ _).put6 (Ext.refl _) (by omega) _ _ _ _ _ _).ext (drew_ext _)).mono (Nat.zero_le _), (((OC4.out.put6 b5 (by omega) _ _ _ _ _ _).put6 (Ext.refl _) (by omega) _ _ _ _ _ _).ext (drew_ext _)).mono (Nat.zero_le _)⟩⟩)
end Go.Proofs.Ytpeeacdnjbcmiaa
