/- attestlaw05.Told, attestlaw08.Of, attestlaw17.Of -/
import Derived.Test.YtnbbhpihlcglgaaRowAll
import Derived.Test.YtnbbhpihlcglgaaRatAll
import Derived.Test.YtnbbhpihlcglgaaPBoth05
import Derived.Test.YtnbbhpihlcglgaaRef5All
namespace Go.Proofs.Ytnbbhpihlcglgaa
open Go.RowKit Go.Att

theorem told_any {w : World} {v : Value} {q : Rat} (hq : RdQ w v q) (sq : Sz 1000000 q) :
    Calls Try.prog 25 #[v] w (Gives w fun v' w' => OwnP 4 w.heap.size w' v' q) := by
  refine via fun R hR => ?_
  have HQ := Lib.hid hq
  have SQ := Lib.hid sq
  have SB := Lib.hid sq.bits
  obtain ⟨n, d, rfl, -, -⟩ := hq
  obtain ⟨w1, hw1, b1, c1, -, -, r2, -⟩ := bx2 w [.bool (decide (q.num < 0)), n, d] [.bool false, .slice none 0 0, .slice none 0 0] 32 46
  obtain ⟨k0, k1, k2⟩ := c1.c3
  have R2 : Hid (Room3 w1 (w.heap.size + 1)) := r2.room3
  have hz := Lib.hid r2.lt
  have HW := Lib.hid hw1
  have hl : (((bitsOf q.den).length : Int) == 0) = false := beqF (by have := bits_len_pos.2 q.den_pos; omega)
  have HSELF : Hid (mkQ (decide (q.num < 0)) q.num.natAbs q.den = q) := mkQ_self q
  clear sq c1 r2 hw1
  go_enter Try.func25, Try.ntmps25
  go_upto_region 1 with (fail)
  rw [← HW.out]
  clear HW
  go_wp2_with fail
  clear k0 k1 k2
  refine (parts_any (HQ.out.ext b1) SQ.out.1 SQ.out.2).mono ?_
  rintro e w2 ⟨_, rfl, b2, v2, v3, rfl, o2, o3⟩
  have O2 := Lib.hid o2
  have OD := Lib.hid o3
  clear o2 o3
  go_wp2_with fail
  refine (Of_any OD.out.rd (by have := SQ.out.2; omega)).mono ?_
  rintro e w3 ⟨v4, rfl, b3, o4⟩
  rw [nv_limbs] at o4
  obtain ⟨a4, c4, rfl, -, -, -, -⟩ := o4.rd.shape
  clear o4
  go_wp2_with fail
  refine (Of_any (O2.out.rd.ext b3) (by have := SQ.out.1; omega)).mono ?_
  rintro e w4 ⟨v5, rfl, b4, o5⟩
  rw [nv_limbs] at o5
  have O5 := Lib.hid o5
  clear o5
  go_wp2_with fail
  refine (Of_any (OD.out.rd.ext (Ext.trans b3 b4)) (by have := SQ.out.2; omega)).mono ?_
  rintro e w5 ⟨v6, rfl, b5, o6⟩
  rw [nv_limbs] at o6
  have O6 := Lib.hid o6
  clear o6
  have z1 : w3.heap.size ≤ w4.heap.size := Below.size b4
  have z2 : w4.heap.size ≤ w5.heap.size := Below.size b5
  go_wp2_with fail
  refine (HSELF.out ▸ r5of_any (B := w3.heap.size) (s := decide (q.num < 0)) (n := q.num.natAbs) (d := q.den) (by omega) (O5.out.ext b5) (O6.out.mono (by omega)) (by have := SB.out.1; omega) (by have := SB.out.2; omega) q.den_nz).mono ?_
  rintro e w6 ⟨_, rfl, b6, n7, d7, rfl, on, od⟩
  obtain ⟨an, cn, rfl, -, -, -, -⟩ := on.rd.shape
  obtain ⟨ad, cd, rfl, -, -, -, -⟩ := od.rd.shape
  have ON := Lib.hid on
  have OD7 := Lib.hid od
  obtain ⟨_, _, _, j0, j1, j2, g0, g1, g2⟩ := (R2.out.ext (Ext.trans b2 (Ext.trans b3 (Ext.trans b4 (Ext.trans b5 b6))))).cells
  clear on od
  go_wp2_with fail
  refine bodyPost_ret (v := .agg #[.bool (decide (q.num < 0)), .slice an (bitsOf q.num.natAbs).length cn, .slice ad (bitsOf q.den).length cd]) (by simp [results, Try.results25, go_sem, j0, j1, j2]) rfl ?_
  have hs := (Ext.trans b2 b3).size
  exact hR.out _ _ (Gives.mk (put3_below (Ext.trans b1 (Ext.trans b2 (Ext.trans b3 (Ext.trans b4 (Ext.trans b5 b6))))) (by omega) _ _ _) ⟨_, _, rfl, (OwnB.put3 ON.out (Ext.refl _) (by have := hz.out; omega) _ _ _).mono (by have := hz.out; omega), (OwnB.put3 OD7.out (Ext.refl _) (by have := hz.out; omega) _ _ _).mono (by have := hz.out; omega)⟩)

theorem of8_any {w : World} {v : Value} {s : Bool} {xs ys : List Nat} (hv : RdN w v s xs ys) (hx : xs.length ≤ 1000000000) (hy : ys.length ≤ 1000000000) :
    Calls Try.prog 18 #[v] w (Gives w fun v' w' => OwnQ 163 w.heap.size w' v' (qOf s xs ys)) := by
  refine via fun R hR => ?_
  have HV := Lib.hid hv
  have HB : Hid (∀ {w v}, RdN w v s xs ys → Calls Try.prog 82 #[v] w (Gives w fun v' w' => ∃ o1 o2, v' = .tuple #[o1, o2] ∧ OwnQ 163 w.heap.size w' o1 (qOf s xs ys) ∧ OwnP 4 w.heap.size w' o2 (qOf s xs ys))) := fun h => both_any h hx hy
  generalize qOf s xs ys = q at *
  obtain ⟨y1, y2, rfl, -, -⟩ := hv
  obtain ⟨w1, hw1, b1, c1, -, -, r2, -⟩ := bx2 w [.bool s, y1, y2] [.bool false, .slice none 0 0, .slice none 0 0] 25 32
  obtain ⟨k0, k1, k2⟩ := c1.c3
  have R2 : Hid (Room3 w1 (w.heap.size + 1)) := r2.room3
  have hz := Lib.hid r2.lt
  have HW := Lib.hid hw1
  clear c1 r2 hw1
  go_enter Try.func18, Try.ntmps18
  go_upto_region 1 with (fail)
  rw [← HW.out]
  clear HW
  go_wp2_with fail
  clear k0 k1 k2
  refine (HB.out (HV.out.ext b1)).mono ?_
  rintro e w2 ⟨_, rfl, b2, _, _, rfl, ⟨n, d, rfl, on, od⟩, ⟨m, c, rfl, om, oc⟩⟩
  obtain ⟨an, cn, rfl, -, -, -, -⟩ := on.rd.1.shape
  obtain ⟨ad, cd, rfl, -, -, -, -⟩ := od.rd.1.shape
  obtain ⟨am, cm, rfl, -, -, -, -⟩ := om.rd.shape
  obtain ⟨ac, cc, rfl, -, -, -, -⟩ := oc.rd.shape
  obtain ⟨w3, hw, b3, c1, -, -, -, -⟩ := bx2 w2 [.bool (decide (q.num < 0)), .slice an (limbs q.num.natAbs).length cn, .slice ad (dens q.den).length cd] [.bool (decide (q.num < 0)), .slice am (bitsOf q.num.natAbs).length cm, .slice ac (bitsOf q.den).length cc] 32 46
  have HW := Lib.hid hw
  have ON := Lib.hid on
  have OD := Lib.hid od
  obtain ⟨k0, k1, k2⟩ := c1.c3
  obtain ⟨_, _, _, j0, j1, j2, g0, g1, g2⟩ := (R2.out.ext (Ext.trans b2 b3)).cells
  clear hw c1 on od om oc
  go_upto_region 2 with (fail)
  rw [← HW.out]
  clear HW
  go_wp2_with fail
  refine bodyPost_ret (v := .agg #[.bool (decide (q.num < 0)), .slice an (limbs q.num.natAbs).length cn, .slice ad (dens q.den).length cd]) (by simp [results, Try.results18, go_sem, j0, j1, j2]) rfl ?_
  exact hR.out _ _ (Gives.mk (put3_below (Ext.trans b1 (Ext.trans b2 b3)) (by omega) _ _ _) ⟨_, _, rfl, (ON.out.put_new b3 (by have := hz.out; omega) _ _ _).mono (by have := hz.out; omega), (OD.out.put_new b3 (by have := hz.out; omega) _ _ _).mono (by have := hz.out; omega)⟩)

set_option linter.unusedSimpArgs false in
theorem of17_any {w : World} {v : Value} {s s' : Bool} {xs ys xs' ys' : List Nat} (hv : RdND w v s xs ys s' xs' ys') (hx : xs.length ≤ 1000000000) (hy : ys.length ≤ 1000000000) (hx' : xs'.length ≤ 1000000000) (hy' : ys'.length ≤ 1000000000) :
    Calls Try.prog 79 #[v] w (Gives w fun v' w' => OwnD 163 w.heap.size w' v' (qOf s xs ys) (qOf s' xs' ys')) := by
  refine via fun R hR => ?_
  obtain ⟨x0, x1, x2, x3, x4, x5, rfl, h1, h2⟩ := hv
  have HA := Lib.hid h1
  have HB := Lib.hid h2
  have HCA : Hid (∀ {w v}, RdN w v s xs ys → Calls Try.prog 18 #[v] w (Gives w fun v' w' => OwnQ 163 w.heap.size w' v' (qOf s xs ys))) := fun h => of8_any h hx hy
  have HCB : Hid (∀ {w v}, RdN w v s' xs' ys' → Calls Try.prog 18 #[v] w (Gives w fun v' w' => OwnQ 163 w.heap.size w' v' (qOf s' xs' ys'))) := fun h => of8_any h hx' hy'
  generalize qOf s xs ys = r at *
  generalize qOf s' xs' ys' = s at *
  obtain ⟨w1, hw1, b1, c1, -, -, r2, -⟩ := bx2 w [x0, x1, x2, x3, x4, x5] [.bool false, .slice none 0 0, .slice none 0 0, .bool false, .slice none 0 0, .slice none 0 0] 152 34
  have C1 := Lib.hid c1
  have RR : Hid (Rm w1 (w.heap.size + 1) 6) := r2
  have HW := Lib.hid hw1
  clear h1 h2 c1 r2 hw1
  go_enter Try.func79, Try.ntmps79
  go_upto_region 1 with (fail)
  rw [← HW.out]
  clear HW
  have b2 := drew_ext w1
  have XE := b2
  refine wp_region_noPanic ?_
  refine wp_region_held_drew (S := fun w' => w'.cell? ⟨w.heap.size, 0, none⟩ = some (x0) ∧ w'.cell? ⟨w.heap.size, 1, none⟩ = some (x1) ∧ w'.cell? ⟨w.heap.size, 2, none⟩ = some (x2) ∧ w'.cell? ⟨w.heap.size, 3, none⟩ = some (x3) ∧ w'.cell? ⟨w.heap.size, 4, none⟩ = some (x4) ∧ w'.cell? ⟨w.heap.size, 5, none⟩ = some (x5)) (by kernel_rfl) ((C1.out.ext XE).c6) (fun hHeld => ?_)
  refine wpAnyH_take (i := 0) (v := ?_) rfl (by kernel_rfl) (by kernel_rfl) (by kernel_rfl) (fun _ _ _ h => h) (Or.inl ⟨by rfl, fun w0 hSw => ?_⟩) hHeld ?_
  rotate_left
  · (try dsimp only at hSw)
    go_simp
    try with_reducible rfl
  simp only [Act.put, List.getElem_toArray, List.getElem_cons_succ, List.getElem_cons_zero, List.setIfInBounds_toArray, List.set_cons_zero, List.set_cons_succ]
  refine wpAnyH_take (i := 1) (v := ?_) rfl (by kernel_rfl) (by kernel_rfl) (by kernel_rfl) (fun _ _ _ h => h) (Or.inl ⟨by rfl, fun w0 hSw => ?_⟩) hHeld ?_
  rotate_left
  · (try dsimp only at hSw)
    go_simp
    try with_reducible rfl
  simp only [Act.put, List.getElem_toArray, List.getElem_cons_succ, List.getElem_cons_zero, List.setIfInBounds_toArray, List.set_cons_zero, List.set_cons_succ]
  refine wpAnyH_take (i := 3) (v := ?_) rfl (by kernel_rfl) (by kernel_rfl) (by kernel_rfl) (fun _ _ _ h => h) (Or.inl ⟨by rfl, fun w0 hSw => ?_⟩) hHeld ?_
  rotate_left
  · (try dsimp only at hSw)
    go_simp
    try with_reducible rfl
  simp only [Act.put, List.getElem_toArray, List.getElem_cons_succ, List.getElem_cons_zero, List.setIfInBounds_toArray, List.set_cons_zero, List.set_cons_succ]
  refine wpAnyH_take (i := 4) (v := ?_) rfl (by kernel_rfl) (by kernel_rfl) (by kernel_rfl) (fun _ _ _ h => h) (Or.inl ⟨by rfl, fun w0 hSw => ?_⟩) hHeld ?_
  rotate_left
  · (try dsimp only at hSw)
    go_simp
    try with_reducible rfl
  simp only [Act.put, List.getElem_toArray, List.getElem_cons_succ, List.getElem_cons_zero, List.setIfInBounds_toArray, List.set_cons_zero, List.set_cons_succ]
  refine wpAnyH_ready (rs := [2]) (by kernel_rfl) (by simp) ?_
  refine AllReadyH.cons (o := _) rfl (fun K hK => ?_) AllReadyH.nil
  go_simp
  go_at_call 18; refine (HCA.out (HA.out.ext (Ext.trans b1 b2))).mono ?_; rintro e w3 ⟨_, rfl, b3, n3, d3, rfl, on3, od3⟩; have ON3 := Lib.hid on3; have OD3 := Lib.hid od3; clear on3 od3; obtain ⟨an3, cn3, rfl, -, -, -, -⟩ := ON3.out.rd.1.shape; obtain ⟨ad3, cd3, rfl, -, -, -, -⟩ := OD3.out.rd.1.shape; (first | have XE := Ext.trans XE b3 | have XE := Ext.trans (Ext.trans XE (Ext.alloc _ _)) b3)
  go_wp2_with fail
  refine hK.out _ _ ((C1.out.ext XE).c6) (fun hHeld => ?_)
  clear hK K
  try simp only [Act.put, List.getElem_toArray, List.getElem_cons_succ, List.getElem_cons_zero, List.setIfInBounds_toArray, List.set_cons_zero, List.set_cons_succ]
  refine wpAnyH_ready (rs := [5]) (by kernel_rfl) (by simp) ?_
  refine AllReadyH.cons (o := _) rfl (fun K hK => ?_) AllReadyH.nil
  go_simp
  go_at_call 18; refine (HCB.out (HB.out.ext (Ext.trans b1 (Ext.trans b2 b3)))).mono ?_; rintro e w4 ⟨_, rfl, b4, n4, d4, rfl, on4, od4⟩; have ON4 := Lib.hid on4; have OD4 := Lib.hid od4; clear on4 od4; obtain ⟨an4, cn4, rfl, -, -, -, -⟩ := ON4.out.rd.1.shape; obtain ⟨ad4, cd4, rfl, -, -, -, -⟩ := OD4.out.rd.1.shape; (first | have XE := Ext.trans XE b4 | have XE := Ext.trans (Ext.trans XE (Ext.alloc _ _)) b4); obtain ⟨_, _, _, _, _, _, j0, j1, j2, j3, j4, j5, g0, g1, g2, g3, g4, g5⟩ := (RR.out.ext XE).c6
  go_wp2_with fail
  refine hK.out _ _ ((C1.out.ext XE).c6) (fun hHeld => ?_)
  clear hK K
  try simp only [Act.put, List.getElem_toArray, List.getElem_cons_succ, List.getElem_cons_zero, List.setIfInBounds_toArray, List.set_cons_zero, List.set_cons_succ]
  refine wpAnyH_take (i := 6) (v := ?_) rfl (by kernel_rfl) (by kernel_rfl) (by kernel_rfl) (fun _ _ _ h => h) (Or.inl ⟨by rfl, fun w0 hSw => ?_⟩) hHeld ?_
  rotate_left
  · (try dsimp only at hSw)
    go_simp
    try with_reducible rfl
  simp only [Act.put, List.getElem_toArray, List.getElem_cons_succ, List.getElem_cons_zero, List.setIfInBounds_toArray, List.set_cons_zero, List.set_cons_succ]
  refine wpAnyH_ready (rs := [7]) (by kernel_rfl) (by simp) ?_
  refine AllReadyH.cons (o := _) rfl (fun K hK => ?_) AllReadyH.nil
  go_simp
  refine hK.out _ _ (((C1.out.ext XE).put6 (by omega) _ _ _ _ _ _).c6) (fun hHeld => ?_)
  clear hK K
  try simp only [Act.put, List.getElem_toArray, List.getElem_cons_succ, List.getElem_cons_zero, List.setIfInBounds_toArray, List.set_cons_zero, List.set_cons_succ]
  refine wpAnyH_done (by kernel_rfl) ?_ _
  refine NoPanic.normal ?_
  go_wp2_with fail
  refine bodyPost_ret (v := .agg #[.bool (decide (r.num < 0)), .slice an3 (limbs r.num.natAbs).length cn3, .slice ad3 (dens r.den).length cd3, .bool (decide (s.num < 0)), .slice an4 (limbs s.num.natAbs).length cn4, .slice ad4 (dens s.den).length cd4]) (by simp [results, Try.results79, go_sem, j0, j1, j2, j3, j4, j5]) rfl ?_
  have hz := Lib.hid (Below.size (Ext.trans b2 b3))
  have hs := Lib.hid RR.out.lt
  have hdr : w1.drew.heap.size = w1.heap.size := rfl
  exact hR.out _ _ (Gives.mk (put6_below (Ext.trans b1 (Ext.trans b2 (Ext.trans b3 b4))) (by have := hz.out; omega) _ _ _ _ _ _) ⟨_, _, _, _, rfl, (ON3.out.put6 b4 (by have := hz.out; have := hs.out; omega) _ _ _ _ _ _).mono (by have := hz.out; have := hs.out; omega), (OD3.out.put6 b4 (by have := hz.out; have := hs.out; omega) _ _ _ _ _ _).mono (by have := hz.out; have := hs.out; omega), (ON4.out.put6 (Ext.refl _) (by have := hz.out; have := hs.out; omega) _ _ _ _ _ _).mono (by have := hz.out; have := hs.out; omega), (OD4.out.put6 (Ext.refl _) (by have := hz.out; have := hs.out; omega) _ _ _ _ _ _).mono (by have := hz.out; have := hs.out; omega)⟩)
end Go.Proofs.Ytnbbhpihlcglgaa
