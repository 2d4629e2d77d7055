/- rat.Floor -/
import Derived.Test.YtjnbhinjpinkaaaPRatCmp
import Derived.Test.YtjnbhinjpinkaaaPRatFrac
namespace Go.Proofs.Ytjnbhinjpinkaaa
open Go.RowKit Go.Att

/-- The whole number below. -/
def floorQ (q : Rat) : Rat := ((q.num / (q.den : Int) : Int) : Rat)
theorem floor_pos {q : Rat} (h : ¬ q.num < 0) : q.num / (q.den : Int) = ((q.num.natAbs / q.den : Nat) : Int) := by
  have e : q.num = (q.num.natAbs : Int) := by omega
  rw [e]; simp
theorem floor_neg {q : Rat} (h : q.num < 0) : q.num / (q.den : Int) = -((q.num.natAbs / q.den : Nat) : Int) - (if q.num.natAbs % q.den = 0 then 0 else 1) := by
  have hd := q.den_pos
  have e : q.num = -(q.num.natAbs : Int) := by omega
  have e1 := Nat.div_add_mod q.num.natAbs q.den
  have e2 := Nat.mod_lt q.num.natAbs hd
  generalize q.num.natAbs / q.den = a at *
  generalize q.num.natAbs % q.den = b at *
  generalize q.num.natAbs = n at *
  generalize q.den = d at *
  rw [e]
  have e3 : (n : Int) = d * a + b := by rw [← e1]; simp
  split
  · rename_i hb
    subst hb
    rw [e3]
    simp
    rw [← Int.mul_neg, Int.mul_ediv_cancel_left _ (by omega)]
  · rename_i hb
    rw [e3]
    have : -((d : Int) * a + b) = (d - b) + d * (-(a : Int) - 1) := by rw [Int.mul_sub, Int.mul_neg]; omega
    rw [this, Int.add_mul_ediv_left _ _ (by omega), Int.ediv_eq_zero_of_lt (by omega) (by omega)]
    omega

theorem ownq_int {e : TypeId} {B : Nat} {w : World} {v : Value} {z : Int} {s : Bool} (hs : s = decide (z < 0)) (h : OwnL e B w v (limbs z.natAbs)) : OwnQ e B w (.agg #[.bool s, v, .slice none 0 0]) (z : Rat) := by
  refine ⟨v, .slice none 0 0, agg_eq (by rw [hs, Rat.num_intCast]), by rw [Rat.num_intCast]; exact h, ?_⟩
  have h2 : dens ((z : Rat)).den = [] := rfl
  rw [h2]
  exact ⟨OwnI.nil _ _ _ _, Fit.nil _⟩

set_option maxHeartbeats 2000000 in
theorem rfloor_any {w : World} {v : Value} {q : Rat} (hq : RdQ w v q) (sq : Sz 1000000 q) :
    Calls Try.prog 51 #[v] w (Gives w fun v' w' => OwnQ 90 w.heap.size w' v' (floorQ q)) := by
  refine via fun R hR => ?_
  have SQ := Lib.hid sq
  obtain ⟨n, d, rfl, hn, hd⟩ := hq
  have HN := Lib.hid hn
  have HD := Lib.hid hd
  clear hn hd sq
  unfold floorQ at hR
  by_cases hs : q.num < 0
  · have hsd : decide (q.num < 0) = true := decide_eq_true hs
    rw [hsd]
    rw [floor_neg hs] at hR
    clear hs hsd
    have HSF : Hid (Sz 10000000 ((-((q.num.natAbs / q.den : Nat) : Int) : Int) : Rat)) := ⟨by rw [Rat.num_intCast, Int.natAbs_neg, Int.natAbs_natCast]; exact Nat.le_trans (limbs_mono (Nat.div_le_self _ _)) (Nat.le_trans SQ.out.1 (by decide)), Nat.le_trans limbs_one_len (by decide)⟩
    obtain ⟨w1, hw1, b1, c1, -, c3, z1⟩ := box1R w (.bool true) n d (.bool false) (.slice none 0 0) (.slice none 0 0) 36 36
    have C1 := Lib.hid c1
    have C3 := Lib.hid c3
    have HW := Lib.hid hw1
    clear c1 c3 hw1
    go_enter Try.func51, Try.ntmps51
    go_wp2_with fail
    rw [← HW.out]
    clear HW
    have b2 := drew_ext w1
    have XE := b2
    go_region_held3 (fun w' => w'.cell? ⟨w.heap.size, 0, none⟩ = some (.bool true) ∧ w'.cell? ⟨w.heap.size, 1, none⟩ = some (n) ∧ w'.cell? ⟨w.heap.size, 2, none⟩ = some (d)) (exact C1.out.ext XE)
      (first
       | (go_at_call 62; refine (divmod_any (HN.out.ext (Ext.trans b1 (Ext.trans b2 b3))) O3.out (by have := SQ.out.1; omega) (by have := SQ.out.2; have := bel_len q.den; omega) (by rw [nv_bel]; exact q.den_nz)).mono ?_; rintro e w4 ⟨_, rfl, b4, q4, r4, rfl, oq4, or4⟩; have OQ4 := Lib.hid oq4; have OR4 := Lib.hid or4; clear oq4 or4; (first | have XE := Ext.trans XE b4 | have XE := Ext.trans (Ext.trans XE (Ext.alloc _ _)) b4))
       | (go_at_call 70; refine (below_any (HD.out.ext (Ext.trans b1 b2))).mono ?_; rintro e w3 ⟨v3, rfl, b3, o3⟩; have O3 := Lib.hid o3; clear o3; (first | have XE := Ext.trans XE b3 | have XE := Ext.trans (Ext.trans XE (Ext.alloc _ _)) b3)))
    rw [nv_limbs, nv_bel] at OQ4 OR4
    obtain ⟨aq, cq, rfl, -, -, -, -⟩ := OQ4.out.rd.1.shape
    obtain ⟨ar, cr, rfl, -, -, -, -⟩ := OR4.out.rd.1.shape
    obtain ⟨k0, k1, k2⟩ := C1.out.ext (Ext.trans b2 (Ext.trans b3 b4))
    have hpq := limbs_len_pos (x := q.num.natAbs / q.den)
    have hpr := limbs_len_pos (x := q.num.natAbs % q.den)
    generalize q.num.natAbs / q.den = x at *
    generalize q.num.natAbs % q.den = y at *
    have hz := Lib.hid (Below.size (Ext.trans b2 b3))
    by_cases hx : 0 < x
    · have eN : 0 < (limbs x).length := hpq.2 hx
      by_cases hy : y = 0
      · have eR : (limbs y).length ≤ 0 := by omega
        rw [if_pos hy, Int.sub_zero] at hR
        generalize hF : ((-(x : Int) : Int) : Rat) = r at hR
        have HF := Lib.hid hF.symm
        clear hF hy
        obtain ⟨w5, hw5, b5, c5, -, -⟩ := box1 w4 (.bool true) (.slice aq (limbs x).length cq) (.slice none 0 0) 36
        have C5 := Lib.hid c5
        have HW := Lib.hid hw5
        clear hw5 c5
        go_upto_region 3 with (fail)
        rw [← HW.out]
        clear HW k0 k1 k2
        obtain ⟨k0, k1, k2⟩ := C1.out.ext (Ext.trans b2 (Ext.trans b3 (Ext.trans b4 b5)))
        obtain ⟨l0, l1, l2⟩ := C5.out
        obtain ⟨_, _, _, j0, j1, j2, g0, g1, g2⟩ := (C3.out.ext (Ext.trans b2 (Ext.trans b3 (Ext.trans b4 b5)))).cells
        go_wp2_with fail
        refine bodyPost_ret (v := .agg #[.bool true, .slice aq (limbs x).length cq, .slice none 0 0]) (by simp [results, Try.results51, go_sem, j0, j1, j2]) rfl ?_
        exact hR.out _ _ (Gives.mk (put3_below (Ext.trans b1 (Ext.trans b2 (Ext.trans b3 (Ext.trans b4 b5)))) (by omega) _ _ _) (by rw [HF.out]; exact ownq_int (z := (-(x : Int))) (by simp; omega) (by rw [Int.natAbs_neg, Int.natAbs_natCast]; exact ((OQ4.out.ext b5).put (by have := hz.out; omega) _ _ _).mono (by have := hz.out; omega))))
      · have eR : 0 < (limbs y).length := hpr.2 (by omega)
        rw [if_neg hy, Rat.intCast_sub] at hR
        generalize hF : ((-(x : Int) : Int) : Rat) - ((1 : Int) : Rat) = r at hR
        have HF := Lib.hid hF
        clear hF hy
        obtain ⟨w5, hw5, b5, c5, -, -⟩ := box1 w4 (.bool true) (.slice aq (limbs x).length cq) (.slice none 0 0) 36
        have C5 := Lib.hid c5
        have HW := Lib.hid hw5
        clear hw5 c5
        go_upto_region 3 with (fail)
        rw [← HW.out]
        clear HW k0 k1 k2
        obtain ⟨k0, k1, k2⟩ := C1.out.ext (Ext.trans b2 (Ext.trans b3 (Ext.trans b4 b5)))
        obtain ⟨l0, l1, l2⟩ := C5.out
        have RF : Hid (RdQ w5 (.agg #[.bool true, .slice aq (limbs x).length cq, .slice none 0 0]) ((-(x : Int) : Int) : Rat)) := (ownq_int (z := -(x : Int)) (by simp; omega) (by rw [Int.natAbs_neg, Int.natAbs_natCast]; exact OQ4.out.ext b5)).rd
        have SF : Hid (Sz 10000000 ((-(x : Int) : Int) : Rat)) := HSF.out
        generalize ((-(x : Int) : Int) : Rat) = f at *
        go_upto_region 4 with (fail)
        have b6 := drew_ext w5
        have XE := b6
        go_region_held3 (fun w' => w'.cell? ⟨w4.heap.size, 0, none⟩ = some (.bool true) ∧ w'.cell? ⟨w4.heap.size, 1, none⟩ = some (.slice aq (limbs x).length cq) ∧ w'.cell? ⟨w4.heap.size, 2, none⟩ = some (.slice none 0 0)) (first | exact C5.out.ext XE | exact (C5.out.ext XE).put (by have := hz.out; have := b4.size; omega) _ _ _)
          (first
           | (go_at_call 37; refine (HF.out ▸ rsub_any (RF.out.ext (Ext.trans b6 b7)) O7.out.rd SF.out ((Sz.int 1 (by omega)).le (by decide))).mono ?_; rintro e w8 ⟨_, rfl, b8, n8, d8, rfl, on8, od8⟩; have ON8 := Lib.hid on8; have OD8 := Lib.hid od8; clear on8 od8; obtain ⟨an8, cn8, rfl, -, -, -, -⟩ := ON8.out.rd.1.shape; obtain ⟨ad8, cd8, rfl, -, -, -, -⟩ := OD8.out.rd.1.shape; (first | have XE := Ext.trans XE b8 | have XE := Ext.trans (Ext.trans XE (Ext.alloc _ _)) b8); obtain ⟨_, _, _, j0, j1, j2, g0, g1, g2⟩ := (C3.out.ext (Ext.trans b2 (Ext.trans b3 (Ext.trans b4 (Ext.trans b5 (Ext.trans b6 (Ext.trans b7 b8))))))).cells)
           | (go_at_call 26; refine (rint_any (u := 1) (by omega)).mono ?_; rintro e w7 ⟨v7, rfl, b7, o7⟩; have O7 := Lib.hid o7; clear o7; (first | have XE := Ext.trans XE b7 | have XE := Ext.trans (Ext.trans XE (Ext.alloc _ _)) b7)))
        go_wp2_with fail
        refine bodyPost_ret (v := .agg #[.bool (decide (r.num < 0)), .slice an8 (limbs r.num.natAbs).length cn8, .slice ad8 (dens r.den).length cd8]) (by simp [results, Try.results51, go_sem, j0, j1, j2]) rfl ?_
        have hz2 := Lib.hid (Below.size (Ext.trans b2 (Ext.trans b3 (Ext.trans b4 (Ext.trans b5 (Ext.trans b6 b7))))))
        exact hR.out _ _ (Gives.mk (put3_below (Ext.trans b1 (Ext.trans b2 (Ext.trans b3 (Ext.trans b4 (Ext.trans b5 (Ext.trans b6 (Ext.trans b7 b8))))))) (by omega) _ _ _) ⟨_, _, rfl, (ON8.out.put (by have := hz2.out; omega) _ _ _).mono (by have := hz2.out; omega), (OD8.out.put (by have := hz2.out; omega) _ _ _).mono (by have := hz2.out; omega)⟩)
    · have eN : (limbs x).length ≤ 0 := by omega
      by_cases hy : y = 0
      · have eR : (limbs y).length ≤ 0 := by omega
        rw [if_pos hy, Int.sub_zero] at hR
        generalize hF : ((-(x : Int) : Int) : Rat) = r at hR
        have HF := Lib.hid hF.symm
        clear hF hy
        obtain ⟨w5, hw5, b5, c5, -, -⟩ := box1 w4 (.bool false) (.slice aq (limbs x).length cq) (.slice none 0 0) 36
        have C5 := Lib.hid c5
        have HW := Lib.hid hw5
        clear hw5 c5
        go_upto_region 3 with (fail)
        rw [← HW.out]
        clear HW k0 k1 k2
        obtain ⟨k0, k1, k2⟩ := C1.out.ext (Ext.trans b2 (Ext.trans b3 (Ext.trans b4 b5)))
        obtain ⟨l0, l1, l2⟩ := C5.out
        obtain ⟨_, _, _, j0, j1, j2, g0, g1, g2⟩ := (C3.out.ext (Ext.trans b2 (Ext.trans b3 (Ext.trans b4 b5)))).cells
        go_wp2_with fail
        refine bodyPost_ret (v := .agg #[.bool false, .slice aq (limbs x).length cq, .slice none 0 0]) (by simp [results, Try.results51, go_sem, j0, j1, j2]) rfl ?_
        exact hR.out _ _ (Gives.mk (put3_below (Ext.trans b1 (Ext.trans b2 (Ext.trans b3 (Ext.trans b4 b5)))) (by omega) _ _ _) (by rw [HF.out]; exact ownq_int (z := (-(x : Int))) (by simp; omega) (by rw [Int.natAbs_neg, Int.natAbs_natCast]; exact ((OQ4.out.ext b5).put (by have := hz.out; omega) _ _ _).mono (by have := hz.out; omega))))
      · have eR : 0 < (limbs y).length := hpr.2 (by omega)
        rw [if_neg hy, Rat.intCast_sub] at hR
        generalize hF : ((-(x : Int) : Int) : Rat) - ((1 : Int) : Rat) = r at hR
        have HF := Lib.hid hF
        clear hF hy
        obtain ⟨w5, hw5, b5, c5, -, -⟩ := box1 w4 (.bool false) (.slice aq (limbs x).length cq) (.slice none 0 0) 36
        have C5 := Lib.hid c5
        have HW := Lib.hid hw5
        clear hw5 c5
        go_upto_region 3 with (fail)
        rw [← HW.out]
        clear HW k0 k1 k2
        obtain ⟨k0, k1, k2⟩ := C1.out.ext (Ext.trans b2 (Ext.trans b3 (Ext.trans b4 b5)))
        obtain ⟨l0, l1, l2⟩ := C5.out
        have RF : Hid (RdQ w5 (.agg #[.bool false, .slice aq (limbs x).length cq, .slice none 0 0]) ((-(x : Int) : Int) : Rat)) := (ownq_int (z := -(x : Int)) (by simp; omega) (by rw [Int.natAbs_neg, Int.natAbs_natCast]; exact OQ4.out.ext b5)).rd
        have SF : Hid (Sz 10000000 ((-(x : Int) : Int) : Rat)) := HSF.out
        generalize ((-(x : Int) : Int) : Rat) = f at *
        go_upto_region 4 with (fail)
        have b6 := drew_ext w5
        have XE := b6
        go_region_held3 (fun w' => w'.cell? ⟨w4.heap.size, 0, none⟩ = some (.bool false) ∧ w'.cell? ⟨w4.heap.size, 1, none⟩ = some (.slice aq (limbs x).length cq) ∧ w'.cell? ⟨w4.heap.size, 2, none⟩ = some (.slice none 0 0)) (first | exact C5.out.ext XE | exact (C5.out.ext XE).put (by have := hz.out; have := b4.size; omega) _ _ _)
          (first
           | (go_at_call 37; refine (HF.out ▸ rsub_any (RF.out.ext (Ext.trans b6 b7)) O7.out.rd SF.out ((Sz.int 1 (by omega)).le (by decide))).mono ?_; rintro e w8 ⟨_, rfl, b8, n8, d8, rfl, on8, od8⟩; have ON8 := Lib.hid on8; have OD8 := Lib.hid od8; clear on8 od8; obtain ⟨an8, cn8, rfl, -, -, -, -⟩ := ON8.out.rd.1.shape; obtain ⟨ad8, cd8, rfl, -, -, -, -⟩ := OD8.out.rd.1.shape; (first | have XE := Ext.trans XE b8 | have XE := Ext.trans (Ext.trans XE (Ext.alloc _ _)) b8); obtain ⟨_, _, _, j0, j1, j2, g0, g1, g2⟩ := (C3.out.ext (Ext.trans b2 (Ext.trans b3 (Ext.trans b4 (Ext.trans b5 (Ext.trans b6 (Ext.trans b7 b8))))))).cells)
           | (go_at_call 26; refine (rint_any (u := 1) (by omega)).mono ?_; rintro e w7 ⟨v7, rfl, b7, o7⟩; have O7 := Lib.hid o7; clear o7; (first | have XE := Ext.trans XE b7 | have XE := Ext.trans (Ext.trans XE (Ext.alloc _ _)) b7)))
        go_wp2_with fail
        refine bodyPost_ret (v := .agg #[.bool (decide (r.num < 0)), .slice an8 (limbs r.num.natAbs).length cn8, .slice ad8 (dens r.den).length cd8]) (by simp [results, Try.results51, go_sem, j0, j1, j2]) rfl ?_
        have hz2 := Lib.hid (Below.size (Ext.trans b2 (Ext.trans b3 (Ext.trans b4 (Ext.trans b5 (Ext.trans b6 b7))))))
        exact hR.out _ _ (Gives.mk (put3_below (Ext.trans b1 (Ext.trans b2 (Ext.trans b3 (Ext.trans b4 (Ext.trans b5 (Ext.trans b6 (Ext.trans b7 b8))))))) (by omega) _ _ _) ⟨_, _, rfl, (ON8.out.put (by have := hz2.out; omega) _ _ _).mono (by have := hz2.out; omega), (OD8.out.put (by have := hz2.out; omega) _ _ _).mono (by have := hz2.out; omega)⟩)
  · have hsd : decide (q.num < 0) = false := decide_eq_false hs
    rw [hsd]
    rw [floor_pos hs] at hR
    clear hs hsd
    obtain ⟨w1, hw1, b1, c1, -, c3, z1⟩ := box1R w (.bool false) n d (.bool false) (.slice none 0 0) (.slice none 0 0) 36 36
    have C1 := Lib.hid c1
    have C3 := Lib.hid c3
    have HW := Lib.hid hw1
    clear c1 c3 hw1
    go_enter Try.func51, Try.ntmps51
    go_wp2_with fail
    rw [← HW.out]
    clear HW
    have b2 := drew_ext w1
    have XE := b2
    go_region_held3 (fun w' => w'.cell? ⟨w.heap.size, 0, none⟩ = some (.bool false) ∧ w'.cell? ⟨w.heap.size, 1, none⟩ = some (n) ∧ w'.cell? ⟨w.heap.size, 2, none⟩ = some (d)) (exact C1.out.ext XE)
      (first
       | (go_at_call 62; refine (divmod_any (HN.out.ext (Ext.trans b1 (Ext.trans b2 b3))) O3.out (by have := SQ.out.1; omega) (by have := SQ.out.2; have := bel_len q.den; omega) (by rw [nv_bel]; exact q.den_nz)).mono ?_; rintro e w4 ⟨_, rfl, b4, q4, r4, rfl, oq4, or4⟩; have OQ4 := Lib.hid oq4; have OR4 := Lib.hid or4; clear oq4 or4; (first | have XE := Ext.trans XE b4 | have XE := Ext.trans (Ext.trans XE (Ext.alloc _ _)) b4))
       | (go_at_call 70; refine (below_any (HD.out.ext (Ext.trans b1 b2))).mono ?_; rintro e w3 ⟨v3, rfl, b3, o3⟩; have O3 := Lib.hid o3; clear o3; (first | have XE := Ext.trans XE b3 | have XE := Ext.trans (Ext.trans XE (Ext.alloc _ _)) b3)))
    rw [nv_limbs, nv_bel] at OQ4 OR4
    obtain ⟨aq, cq, rfl, -, -, -, -⟩ := OQ4.out.rd.1.shape
    obtain ⟨ar, cr, rfl, -, -, -, -⟩ := OR4.out.rd.1.shape
    obtain ⟨k0, k1, k2⟩ := C1.out.ext (Ext.trans b2 (Ext.trans b3 b4))
    have hpq := limbs_len_pos (x := q.num.natAbs / q.den)
    have hpr := limbs_len_pos (x := q.num.natAbs % q.den)
    generalize q.num.natAbs / q.den = x at *
    generalize q.num.natAbs % q.den = y at *
    have hz := Lib.hid (Below.size (Ext.trans b2 b3))
    generalize hF : (((x : Int)) : Rat) = r at hR
    have HF := Lib.hid hF.symm
    clear hF
    obtain ⟨w5, hw5, b5, c5, -, -⟩ := box1 w4 (.bool false) (.slice aq (limbs x).length cq) (.slice none 0 0) 36
    have C5 := Lib.hid c5
    have HW := Lib.hid hw5
    clear hw5 c5
    go_upto_region 3 with (fail)
    rw [← HW.out]
    clear HW k0 k1 k2
    obtain ⟨k0, k1, k2⟩ := C1.out.ext (Ext.trans b2 (Ext.trans b3 (Ext.trans b4 b5)))
    obtain ⟨l0, l1, l2⟩ := C5.out
    obtain ⟨_, _, _, j0, j1, j2, g0, g1, g2⟩ := (C3.out.ext (Ext.trans b2 (Ext.trans b3 (Ext.trans b4 b5)))).cells
    go_wp2_with fail
    refine bodyPost_ret (v := .agg #[.bool false, .slice aq (limbs x).length cq, .slice none 0 0]) (by simp [results, Try.results51, go_sem, j0, j1, j2]) rfl ?_
    exact hR.out _ _ (Gives.mk (put3_below (Ext.trans b1 (Ext.trans b2 (Ext.trans b3 (Ext.trans b4 b5)))) (by omega) _ _ _) (by rw [HF.out]; exact ownq_int (z := (x : Int)) (by simp) (by rw [Int.natAbs_natCast]; exact ((OQ4.out.ext b5).put (by have := hz.out; omega) _ _ _).mono (by have := hz.out; omega))))
end Go.Proofs.Ytjnbhinjpinkaaa
