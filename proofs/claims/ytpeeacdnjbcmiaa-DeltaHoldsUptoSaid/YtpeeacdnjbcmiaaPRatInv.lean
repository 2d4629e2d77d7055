/- rat.Inv -/
import Derived.Test.YtpeeacdnjbcmiaaPRatMade
namespace Go.Proofs.Ytpeeacdnjbcmiaa
open Go.RowKit Go.Att

theorem rinv_no {w : World} {v : Value} {q : Rat} (hq : RdQ w v q) (h0 : q.num = 0) :
    Calls Try.prog 129 #[v] w (Gives w fun v' _ => v' = .tuple #[.agg #[.bool false, .slice none 0 0, .slice none 0 0], .bool false]) := by
  refine via fun R hR => ?_
  obtain ⟨n, d, rfl, hn, hd⟩ := hq
  obtain ⟨a, c, rfl, -, -, -, -⟩ := hn.1.shape
  clear hn hd
  have hl : (((limbs q.num.natAbs).length : Int) == 0) = true := beqT (by have := limbs_len_pos (x := q.num.natAbs); omega)
  clear h0
  go_enter Try.func129, Try.ntmps129
  go_wp2_with fail
  refine bodyPost_ret (v := .tuple #[.agg #[.bool false, .slice none 0 0, .slice none 0 0], .bool false]) (by simp [results, Try.results129, go_sem]) rfl ?_
  exact hR.out _ _ (Gives.mk ((Ext.alloc _ _).trans (Ext.alloc _ _)) rfl)

theorem rinv_any {w : World} {v : Value} {q : Rat} (hq : RdQ w v q) (sq : Sz 100000000 q) (h0 : q.num ≠ 0) :
    Calls Try.prog 129 #[v] w (Gives w fun v' w' => ∃ o, v' = .tuple #[o, .bool true] ∧ OwnQ 148 w.heap.size w' o q⁻¹) := by
  refine via fun R hR => ?_
  generalize hr : q⁻¹ = r at hR
  have HRR := Lib.hid hr
  clear hr
  obtain ⟨n, d, rfl, hn, hd⟩ := hq
  have HN := Lib.hid hn
  have HD := Lib.hid hd
  have SQ := Lib.hid sq
  have H0 := Lib.hid h0
  obtain ⟨a, c, rfl, -, -, -, -⟩ := hn.1.shape
  have hl : (((limbs q.num.natAbs).length : Int) == 0) = false := beqF (by have := limbs_len_pos.2 (show 0 < q.num.natAbs by omega); omega)
  clear hn hd sq h0
  obtain ⟨w1, hw1, b1, c1, _, c3, z1⟩ := box1R w (.bool (decide (q.num < 0))) (.slice a (limbs q.num.natAbs).length c) d (.bool false) (.slice none 0 0) (.slice none 0 0) 28 28
  have C1 := Lib.hid c1
  have C3 := Lib.hid c3
  have HW := Lib.hid hw1
  clear c1 c3 hw1
  go_enter Try.func129, Try.ntmps129
  go_upto_region 3 with (fail)
  rw [← HW.out]
  clear HW
  have b2 := drew_ext w1
  have XE := b2
  go_region_held3 (fun w' => w'.cell? ⟨w.heap.size, 0, none⟩ = some (.bool (decide (q.num < 0))) ∧ w'.cell? ⟨w.heap.size, 1, none⟩ = some (.slice a (limbs q.num.natAbs).length c) ∧ w'.cell? ⟨w.heap.size, 2, none⟩ = some (d)) (first | exact C1.out.ext XE | exact (C1.out.ext XE).put (by omega) _ _ _)
    (first
     | (go_at_call 101; refine (made_to (r := r) O3.out (HN.out.ext (Ext.trans b1 (Ext.trans b2 b3))) (by have := SQ.out.2; have := bel_len q.den; omega) (by have := SQ.out.1; omega) (by rw [nv_limbs]; have := H0.out; omega) (by rw [nv_limbs, nv_bel]; exact (invQ q H0.out).trans HRR.out)).mono ?_; rintro e w4 ⟨_, rfl, b4, n4, d4, rfl, on4, od4⟩; have ON4 := Lib.hid on4; have OD4 := Lib.hid od4; clear on4 od4; obtain ⟨an4, cn4, rfl, -, -, -, -⟩ := ON4.out.rd.1.shape; obtain ⟨ad4, cd4, rfl, -, -, -, -⟩ := OD4.out.rd.1.shape; (first | have XE := Ext.trans XE b4 | have XE := Ext.trans (Ext.trans XE (Ext.alloc _ _)) b4); obtain ⟨_, _, _, j0, j1, j2, g0, g1, g2⟩ := (C3.out.ext XE).cells)
     | (go_at_call 100; refine (below_any (HD.out.ext (Ext.trans b1 b2))).mono ?_; rintro e w3 ⟨v3, rfl, b3, o3⟩; have O3 := Lib.hid o3; clear o3; (first | have XE := Ext.trans XE b3 | have XE := Ext.trans (Ext.trans XE (Ext.alloc _ _)) b3)))
  go_wp2_with fail
  refine bodyPost_ret (v := .tuple #[.agg #[.bool (decide (r.num < 0)), .slice an4 (limbs r.num.natAbs).length cn4, .slice ad4 (dens r.den).length cd4], .bool true]) (by simp [results, Try.results129, go_sem, j0, j1, j2]) rfl ?_
  have hz := Lib.hid (Below.size (Ext.trans b2 b3))
  exact hR.out _ _ (Gives.mk (put3_below (Ext.trans b1 (Ext.trans b2 (Ext.trans b3 b4))) (by omega) _ _ _) ⟨_, rfl, _, _, rfl, (ON4.out.put (by have := hz.out; omega) _ _ _).mono (by have := hz.out; omega), (OD4.out.put (by have := hz.out; omega) _ _ _).mono (by have := hz.out; omega)⟩)
end Go.Proofs.Ytpeeacdnjbcmiaa
