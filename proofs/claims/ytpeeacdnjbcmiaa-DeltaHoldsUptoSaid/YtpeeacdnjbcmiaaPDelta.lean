/- delta.Cmp, delta.Of, delta.At; attestref07.Cmp -/
import Derived.Test.YtpeeacdnjbcmiaaBox
import Derived.Test.YtpeeacdnjbcmiaaPRatCmp
import Derived.Test.YtpeeacdnjbcmiaaPRatMul
import Derived.Test.YtpeeacdnjbcmiaaPRef5Cmp
namespace Go.Proofs.Ytpeeacdnjbcmiaa
open Go.RowKit Go.Att

/-- The order: by the plain part, then by the other. -/
def cmpD (a b c d : Rat) : Int := if (a - c).num.sign = 0 then (b - d).num.sign else (a - c).num.sign

theorem dcmp_any {w : World} {va vb : Value} {a b c d : Rat} (hp : RdD w va a b) (hq : RdD w vb c d) (sa : Sz 10000000 a) (sb : Sz 10000000 b) (sc : Sz 10000000 c) (sd : Sz 10000000 d) :
    Calls Try.prog 88 #[va, vb] w (Gives w fun v' _ => v' = .int .i64 (cmpD a b c d)) := by
  refine via fun R hR => ?_
  obtain ⟨x0, x1, x2, x3, x4, x5, rfl, h1, h2⟩ := hp
  obtain ⟨y0, y1, y2, y3, y4, y5, rfl, h3, h4⟩ := hq
  have HA := Lib.hid h1
  have HB := Lib.hid h2
  have HC := Lib.hid h3
  have HD := Lib.hid h4
  have SA := Lib.hid sa
  have SB := Lib.hid sb
  have SC := Lib.hid sc
  have SD := Lib.hid sd
  obtain ⟨w1, hw1, b1, c1, c2, -, -, -⟩ := bx2 w [x0, x1, x2, x3, x4, x5] [y0, y1, y2, y3, y4, y5] 30 30
  have C1 := Lib.hid c1
  have C2 := Lib.hid c2
  have HW := Lib.hid hw1
  clear h1 h2 h3 h4 sa sb sc sd c1 c2 hw1
  unfold cmpD at hR
  go_enter Try.func88, Try.ntmps88
  go_upto_region 1 with (fail)
  rw [← HW.out]
  clear HW
  obtain ⟨k0, k1, k2, k3, k4, k5⟩ := C1.out.c6
  obtain ⟨l0, l1, l2, l3, l4, l5⟩ := C2.out.c6
  go_wp2_with fail
  clear k0 k1 k2 k3 k4 k5 l0 l1 l2 l3 l4 l5
  refine (rcmp_any (HA.out.ext b1) (HC.out.ext b1) SA.out SC.out).mono ?_
  rintro e w2 ⟨_, rfl, b2, rfl⟩
  generalize (a - c).num.sign = t at *
  by_cases h : t = 0
  · rw [if_pos h] at hR
    subst h
    obtain ⟨k0, k1, k2, k3, k4, k5⟩ := (C1.out.ext b2).c6
    obtain ⟨l0, l1, l2, l3, l4, l5⟩ := (C2.out.ext b2).c6
    go_wp2_with fail
    clear k0 k1 k2 k3 k4 k5 l0 l1 l2 l3 l4 l5
    refine (rcmp_any (HB.out.ext (Ext.trans b1 b2)) (HD.out.ext (Ext.trans b1 b2)) SB.out SD.out).mono ?_
    rintro e w3 ⟨_, rfl, b3, rfl⟩
    go_wp2_with fail
    exact hR.out _ _ (Gives.mk (Ext.trans b1 (Ext.trans b2 b3)) rfl)
  · rw [if_neg h] at hR
    have ht : (t != 0) = true := bneT h
    clear h
    go_wp2_with fail
    exact hR.out _ _ (Gives.mk (Ext.trans b1 b2) rfl)

theorem r7cmp_any {w : World} {va vb : Value} {a b c d : Rat} (hp : RdE w va a b) (hq : RdE w vb c d) (sa : Sb 50000 a) (sb : Sb 50000 b) (sc : Sb 50000 c) (sd : Sb 50000 d) :
    Calls Try.prog 107 #[va, vb] w (Gives w fun v' _ => v' = .int .i64 (cmpD a b c d)) := by
  refine via fun R hR => ?_
  obtain ⟨x0, x1, x2, x3, x4, x5, rfl, h1, h2⟩ := hp
  obtain ⟨y0, y1, y2, y3, y4, y5, rfl, h3, h4⟩ := hq
  have HA := Lib.hid h1
  have HB := Lib.hid h2
  have HC := Lib.hid h3
  have HD := Lib.hid h4
  have SA := Lib.hid sa
  have SB := Lib.hid sb
  have SC := Lib.hid sc
  have SD := Lib.hid sd
  obtain ⟨w1, hw1, b1, c1, c2, -, -, -⟩ := bx2 w [x0, x1, x2, x3, x4, x5] [y0, y1, y2, y3, y4, y5] 35 35
  have C1 := Lib.hid c1
  have C2 := Lib.hid c2
  have HW := Lib.hid hw1
  clear h1 h2 h3 h4 sa sb sc sd c1 c2 hw1
  unfold cmpD at hR
  go_enter Try.func107, Try.ntmps107
  go_upto_region 1 with (fail)
  rw [← HW.out]
  clear HW
  obtain ⟨k0, k1, k2, k3, k4, k5⟩ := C1.out.c6
  obtain ⟨l0, l1, l2, l3, l4, l5⟩ := C2.out.c6
  go_wp2_with fail
  clear k0 k1 k2 k3 k4 k5 l0 l1 l2 l3 l4 l5
  refine (r5cmp_any (HA.out.ext b1) (HC.out.ext b1) SA.out SC.out).mono ?_
  rintro e w2 ⟨_, rfl, b2, rfl⟩
  generalize (a - c).num.sign = t at *
  by_cases h : t = 0
  · rw [if_pos h] at hR
    subst h
    obtain ⟨k0, k1, k2, k3, k4, k5⟩ := (C1.out.ext b2).c6
    obtain ⟨l0, l1, l2, l3, l4, l5⟩ := (C2.out.ext b2).c6
    go_wp2_with fail
    clear k0 k1 k2 k3 k4 k5 l0 l1 l2 l3 l4 l5
    refine (r5cmp_any (HB.out.ext (Ext.trans b1 b2)) (HD.out.ext (Ext.trans b1 b2)) SB.out SD.out).mono ?_
    rintro e w3 ⟨_, rfl, b3, rfl⟩
    go_wp2_with fail
    exact hR.out _ _ (Gives.mk (Ext.trans b1 (Ext.trans b2 b3)) rfl)
  · rw [if_neg h] at hR
    have ht : (t == 0) = false := beqF h
    clear h
    go_wp2_with fail
    exact hR.out _ _ (Gives.mk (Ext.trans b1 b2) rfl)

theorem dof_any {w : World} {v : Value} {q : Rat} (hq : RdQ w v q) :
    Calls Try.prog 26 #[v] w (Gives w fun v' w' => RdD w' v' q 0) := by
  refine via fun R hR => ?_
  obtain ⟨n, d, rfl, hn, hd⟩ := hq
  have HN := Lib.hid hn
  have HD := Lib.hid hd
  obtain ⟨an, cn, rfl, -, -, -, -⟩ := hn.1.shape
  obtain ⟨ad, cd, rfl, -, -, -, -⟩ := hd.1.shape
  clear hn hd
  obtain ⟨w1, hw1, b1, c1, -, -, r2, -⟩ := bx2 w [.bool (decide (q.num < 0)), .slice an (limbs q.num.natAbs).length cn, .slice ad (dens q.den).length cd] [.bool false, .slice none 0 0, .slice none 0 0, .bool false, .slice none 0 0, .slice none 0 0] 28 30
  obtain ⟨k0, k1, k2⟩ := c1.c3
  obtain ⟨_, _, _, _, _, _, j0, j1, j2, j3, j4, j5, g0, g1, g2, g3, g4, g5⟩ := r2.c6
  have HW := Lib.hid hw1
  clear hw1 c1 r2
  go_enter Try.func26, Try.ntmps26
  go_upto_region 1 with (fail)
  rw [← HW.out]
  clear HW
  go_wp2_with fail
  refine bodyPost_ret (v := .agg #[.bool (decide (q.num < 0)), .slice an (limbs q.num.natAbs).length cn, .slice ad (dens q.den).length cd, .bool false, .slice none 0 0, .slice none 0 0]) (by simp [results, Try.results26, go_sem, j0, j1, j2, j3, j4, j5]) rfl ?_
  have xx := put6_below b1 (show w.heap.size ≤ w.heap.size + 1 by omega) (.bool (decide (q.num < 0))) (.slice an (limbs q.num.natAbs).length cn) (.slice ad (dens q.den).length cd) (.bool false) (.slice none 0 0) (.slice none 0 0)
  exact hR.out _ _ (Gives.mk xx ⟨_, _, _, _, _, _, rfl, ⟨_, _, rfl, HN.out.ext xx, HD.out.ext xx⟩, rdq_zero _⟩)

theorem dat_any {w : World} {va vb : Value} {a b q : Rat} (hp : RdD w va a b) (hq : RdQ w vb q) (sa : Sz 1000000 a) (sb : Sz 1000000 b) (sq : Sz 1000000 q) :
    Calls Try.prog 29 #[va, vb] w (Gives w fun v' w' => OwnQ 148 w.heap.size w' v' (a + b * q)) := by
  refine via fun R hR => ?_
  generalize hr : a + b * q = r at hR
  have HRR := Lib.hid hr
  clear hr
  obtain ⟨x0, x1, x2, x3, x4, x5, rfl, h1, h2⟩ := hp
  have HA := Lib.hid h1
  have HB := Lib.hid h2
  have HQ := Lib.hid hq
  have SA := Lib.hid sa
  have SB := Lib.hid sb
  have SQ := Lib.hid sq
  obtain ⟨y0, y1, rfl, -, -⟩ := hq
  obtain ⟨w1, hw1, b1, c1, c2, -, -, -, r3, -⟩ := bx3 w [x0, x1, x2, x3, x4, x5] [.bool (decide (q.num < 0)), y0, y1] [.bool false, .slice none 0 0, .slice none 0 0] 30 28 28
  have C1 := Lib.hid c1
  have C2 := Lib.hid c2
  have C3 : Hid (Room3 w1 (w.heap.size + 1 + 1)) := r3.room3
  have HW := Lib.hid hw1
  clear h1 h2 sa sb sq c1 c2 r3 hw1
  go_enter Try.func29, Try.ntmps29
  go_upto_region 1 with (fail)
  rw [← HW.out]
  clear HW
  have b2 := drew_ext w1
  have XE := b2
  go_region_held3 (fun w' => (w'.cell? ⟨w.heap.size, 0, none⟩ = some (x0) ∧ w'.cell? ⟨w.heap.size, 1, none⟩ = some (x1) ∧ w'.cell? ⟨w.heap.size, 2, none⟩ = some (x2) ∧ w'.cell? ⟨w.heap.size, 3, none⟩ = some (x3) ∧ w'.cell? ⟨w.heap.size, 4, none⟩ = some (x4) ∧ w'.cell? ⟨w.heap.size, 5, none⟩ = some (x5)) ∧ (w'.cell? ⟨w.heap.size + 1, 0, none⟩ = some (.bool (decide (q.num < 0))) ∧ w'.cell? ⟨w.heap.size + 1, 1, none⟩ = some (y0) ∧ w'.cell? ⟨w.heap.size + 1, 2, none⟩ = some (y1))) (first | exact ⟨(C1.out.ext XE).c6, (C2.out.ext XE).c3⟩ | exact ⟨((C1.out.ext XE).put3 (by omega) _ _ _).c6, ((C2.out.ext XE).put3 (by omega) _ _ _).c3⟩)
    (first
     | (go_at_call 33; refine (HRR.out ▸ radd_any (HA.out.ext (Ext.trans b1 (Ext.trans b2 b3))) O3.out.rd (SA.out.le (by decide)) ((SB.out.mul SQ.out).le (by decide))).mono ?_; rintro e w4 ⟨_, rfl, b4, n4, d4, rfl, on4, od4⟩; have ON4 := Lib.hid on4; have OD4 := Lib.hid od4; clear on4 od4; obtain ⟨an4, cn4, rfl, -, -, -, -⟩ := ON4.out.rd.1.shape; obtain ⟨ad4, cd4, rfl, -, -, -, -⟩ := OD4.out.rd.1.shape; (first | have XE := Ext.trans XE b4 | have XE := Ext.trans (Ext.trans XE (Ext.alloc _ _)) b4); obtain ⟨_, _, _, j0, j1, j2, g0, g1, g2⟩ := (C3.out.ext XE).cells)
     | (go_at_call 56; refine (rmul_any (HB.out.ext (Ext.trans b1 b2)) (HQ.out.ext (Ext.trans b1 b2)) (SB.out.le (by decide)) (SQ.out.le (by decide))).mono ?_; rintro e w3 ⟨v3, rfl, b3, o3⟩; have O3 := Lib.hid o3; clear o3; (first | have XE := Ext.trans XE b3 | have XE := Ext.trans (Ext.trans XE (Ext.alloc _ _)) b3)))
  go_wp2_with fail
  refine bodyPost_ret (v := .agg #[.bool (decide (r.num < 0)), .slice an4 (limbs r.num.natAbs).length cn4, .slice ad4 (dens r.den).length cd4]) (by simp [results, Try.results29, go_sem, j0, j1, j2]) rfl ?_
  have hz := Lib.hid (Below.size (Ext.trans b2 b3))
  have hs : Hid (w.heap.size + 1 + 1 < w1.heap.size) := by obtain ⟨_, _, _, _, h⟩ := C3.out; exact (Array.getElem?_eq_some_iff.1 h).1
  exact hR.out _ _ (Gives.mk (put3_below (Ext.trans b1 (Ext.trans b2 (Ext.trans b3 b4))) (by omega) _ _ _) ⟨_, _, rfl, (ON4.out.put (by have := hz.out; have := hs.out; omega) _ _ _).mono (by have := hz.out; have := hs.out; omega), (OD4.out.put (by have := hz.out; have := hs.out; omega) _ _ _).mono (by have := hz.out; have := hs.out; omega)⟩)
end Go.Proofs.Ytpeeacdnjbcmiaa
