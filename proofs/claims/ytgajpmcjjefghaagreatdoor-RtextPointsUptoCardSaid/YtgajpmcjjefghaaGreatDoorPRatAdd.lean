/- rat.Add -/
import Derived.Test.YtgajpmcjjefghaaGreatDoorPRatMade
import Derived.Test.YtgajpmcjjefghaaGreatDoorNatAll
import Derived.Test.YtgajpmcjjefghaaGreatDoorPRatSum2
namespace Go.Proofs.YtgajpmcjjefghaaGreatDoor
open Go.RowKit Go.Att

theorem radd_any {w : World} {va vb : Value} {p q : Rat} (hp : RdQ w va p) (hq : RdQ w vb q) (sp : Sz 10000000 p) (sq : Sz 10000000 q) :
    Calls Tryz.prog 47 #[va, vb] w (Gives w fun v' w' => OwnQ 57 w.heap.size w' v' (p + q)) := by
  refine via fun R hR => ?_
  generalize hr : p + q = r at hR
  have HRR := Lib.hid hr
  clear hr
  obtain ⟨n, d, rfl, hn, hd⟩ := hp
  obtain ⟨m, c, rfl, hm, hc⟩ := hq
  have HN := Lib.hid hn
  have HD := Lib.hid hd
  have HM := Lib.hid hm
  have HC := Lib.hid hc
  have SP := Lib.hid sp
  have SQ := Lib.hid sq
  clear hn hd hm hc sp sq
  obtain ⟨w1, hw1, b1, c1, c2, c3, z1⟩ := box2R w (.bool (decide (p.num < 0))) n d (.bool (decide (q.num < 0))) m c (.bool false) (.slice none 0 0) (.slice none 0 0) 26 26 26
  have C1 := Lib.hid c1
  have C2 := Lib.hid c2
  have C3 := Lib.hid c3
  have HW := Lib.hid hw1
  clear c1 c2 c3 hw1
  go_enter Tryz.func47, Tryz.ntmps47
  go_wp2_with fail
  rw [← HW.out]
  clear HW
  have b2 := drew_ext w1
  have XE := b2
  go_region_held3 (fun w' => (w'.cell? ⟨w.heap.size, 0, none⟩ = some (.bool (decide (p.num < 0))) ∧ w'.cell? ⟨w.heap.size, 1, none⟩ = some (n) ∧ w'.cell? ⟨w.heap.size, 2, none⟩ = some (d)) ∧ (w'.cell? ⟨w.heap.size + 1, 0, none⟩ = some (.bool (decide (q.num < 0))) ∧ w'.cell? ⟨w.heap.size + 1, 1, none⟩ = some (m) ∧ w'.cell? ⟨w.heap.size + 1, 2, none⟩ = some (c))) (exact ⟨C1.out.ext XE, C2.out.ext XE⟩)
    (first
     | (go_at_call 69; refine (rsum2_to (p.num.natAbs * q.den) (q.num.natAbs * p.den) (O4.out.rd.ext (Ext.trans b5 b6)) O6.out.rd (by rw [nv_limbs, nv_bel]; have := limbs_mul SP.out.1 SQ.out.2; omega) (by rw [nv_limbs, nv_bel]; have := limbs_mul SQ.out.1 SP.out.2; omega) (by rw [nv_limbs, nv_limbs, nv_bel]) (by rw [nv_limbs, nv_limbs, nv_bel])).mono ?_; rintro e w7 ⟨_, rfl, b7, v7, rfl, o7⟩; have O7 := Lib.hid o7; clear o7; (first | have XE := Ext.trans XE b7 | have XE := Ext.trans (Ext.trans XE (Ext.alloc _ _)) b7))
     | (go_at_call 41; refine (mul_any (HM.out.ext (Ext.trans b1 (Ext.trans b2 (Ext.trans b3 (Ext.trans b4 b5))))) O5.out (by have := SQ.out.1; omega) (by have := SP.out.2; have := bel_len p.den; omega)).mono ?_; rintro e w6 ⟨v6, rfl, b6, o6⟩; have O6 := Lib.hid o6; clear o6; (first | have XE := Ext.trans XE b6 | have XE := Ext.trans (Ext.trans XE (Ext.alloc _ _)) b6))
     | (go_at_call 46; refine (below_any (HD.out.ext (Ext.trans b1 (Ext.trans b2 (Ext.trans b3 b4))))).mono ?_; rintro e w5 ⟨v5, rfl, b5, o5⟩; have O5 := Lib.hid o5; clear o5; (first | have XE := Ext.trans XE b5 | have XE := Ext.trans (Ext.trans XE (Ext.alloc _ _)) b5))
     | (go_at_call 41; refine (mul_any (HN.out.ext (Ext.trans b1 (Ext.trans b2 b3))) O3.out (by have := SP.out.1; omega) (by have := SQ.out.2; have := bel_len q.den; omega)).mono ?_; rintro e w4 ⟨v4, rfl, b4, o4⟩; have O4 := Lib.hid o4; clear o4; (first | have XE := Ext.trans XE b4 | have XE := Ext.trans (Ext.trans XE (Ext.alloc _ _)) b4))
     | (go_at_call 46; refine (below_any (HC.out.ext (Ext.trans b1 b2))).mono ?_; rintro e w3 ⟨v3, rfl, b3, o3⟩; have O3 := Lib.hid o3; clear o3; (first | have XE := Ext.trans XE b3 | have XE := Ext.trans (Ext.trans XE (Ext.alloc _ _)) b3)))
  go_upto_region 2 with (fail)
  have D1 := Lib.hid (C1.out.ext (Ext.trans b2 (Ext.trans b3 (Ext.trans b4 (Ext.trans b5 (Ext.trans b6 b7))))))
  have D2 := Lib.hid (C2.out.ext (Ext.trans b2 (Ext.trans b3 (Ext.trans b4 (Ext.trans b5 (Ext.trans b6 b7))))))
  have D3 := Lib.hid (C3.out.ext (Ext.trans b2 (Ext.trans b3 (Ext.trans b4 (Ext.trans b5 (Ext.trans b6 b7))))))
  clear C1 C2 C3 O3 O4 O5 O6
  have hz := Lib.hid (Below.size (Ext.trans b2 (Ext.trans b3 (Ext.trans b4 (Ext.trans b5 (Ext.trans b6 b7))))))
  have b8 := drew_ext w7
  have XE := b8
  go_region_held3 (fun w' => (w'.cell? ⟨w.heap.size, 0, none⟩ = some (.bool (decide (p.num < 0))) ∧ w'.cell? ⟨w.heap.size, 1, none⟩ = some (n) ∧ w'.cell? ⟨w.heap.size, 2, none⟩ = some (d)) ∧ (w'.cell? ⟨w.heap.size + 1, 0, none⟩ = some (.bool (decide (q.num < 0))) ∧ w'.cell? ⟨w.heap.size + 1, 1, none⟩ = some (m) ∧ w'.cell? ⟨w.heap.size + 1, 2, none⟩ = some (c))) (first | exact ⟨D1.out.ext XE, D2.out.ext XE⟩ | exact ⟨(D1.out.ext XE).put (by omega) _ _ _, (D2.out.ext XE).put (by omega) _ _ _⟩)
    (first
     | (go_at_call 45; refine (made_to (r := r) (O7.out.rd.ext (Ext.trans b8 (Ext.trans b9 (Ext.trans b10 b11)))) O11.out.rd (by have := limbs_mono (sumN_le (decide (p.num < 0)) (decide (q.num < 0)) (p.num.natAbs * q.den) (q.num.natAbs * p.den)); have := limbs_add (limbs_mul (Sz.le SP.out (Nat.le_refl _)).1 SQ.out.2) (limbs_mul SQ.out.1 SP.out.2); omega) (by rw [nv_bel, nv_bel]; have := limbs_mul SP.out.2 SQ.out.2; omega) (by rw [nv_limbs, nv_bel, nv_bel]; exact Nat.mul_ne_zero p.den_nz q.den_nz) (by rw [nv_limbs, nv_limbs, nv_bel, nv_bel]; exact (addQ p q).trans HRR.out)).mono ?_; rintro e w12 ⟨_, rfl, b12, n12, d12, rfl, on12, od12⟩; have ON12 := Lib.hid on12; have OD12 := Lib.hid od12; clear on12 od12; obtain ⟨an12, cn12, rfl, -, -, -, -⟩ := ON12.out.rd.1.shape; obtain ⟨ad12, cd12, rfl, -, -, -, -⟩ := OD12.out.rd.1.shape; (first | have XE := Ext.trans XE b12 | have XE := Ext.trans (Ext.trans XE (Ext.alloc _ _)) b12); obtain ⟨_, _, _, j0, j1, j2, g0, g1, g2⟩ := (D3.out.ext XE).cells)
     | (go_at_call 41; refine (mul_any (O9.out.ext b10) O10.out (by have := SP.out.2; have := bel_len p.den; omega) (by have := SQ.out.2; have := bel_len q.den; omega)).mono ?_; rintro e w11 ⟨v11, rfl, b11, o11⟩; have O11 := Lib.hid o11; clear o11; (first | have XE := Ext.trans XE b11 | have XE := Ext.trans (Ext.trans XE (Ext.alloc _ _)) b11))
     | (go_at_call 46; refine (below_any (HC.out.ext (Ext.trans b1 (Ext.trans b2 (Ext.trans b3 (Ext.trans b4 (Ext.trans b5 (Ext.trans b6 (Ext.trans b7 (Ext.trans b8 b9)))))))))).mono ?_; rintro e w10 ⟨v10, rfl, b10, o10⟩; have O10 := Lib.hid o10; clear o10; (first | have XE := Ext.trans XE b10 | have XE := Ext.trans (Ext.trans XE (Ext.alloc _ _)) b10))
     | (go_at_call 46; refine (below_any (HD.out.ext (Ext.trans b1 (Ext.trans b2 (Ext.trans b3 (Ext.trans b4 (Ext.trans b5 (Ext.trans b6 (Ext.trans b7 b8))))))))).mono ?_; rintro e w9 ⟨v9, rfl, b9, o9⟩; have O9 := Lib.hid o9; clear o9; (first | have XE := Ext.trans XE b9 | have XE := Ext.trans (Ext.trans XE (Ext.alloc _ _)) b9)))
  go_wp2_with fail
  refine bodyPost_ret (v := .agg #[.bool (decide (r.num < 0)), .slice an12 (limbs r.num.natAbs).length cn12, .slice ad12 (dens r.den).length cd12]) (by simp [results, Tryz.results47, go_sem, j0, j1, j2]) rfl ?_
  have hz2 := Lib.hid (Below.size (Ext.trans b8 (Ext.trans b9 (Ext.trans b10 b11))))
  exact hR.out _ _ (Gives.mk (put3_below (Ext.trans b1 (Ext.trans b2 (Ext.trans b3 (Ext.trans b4 (Ext.trans b5 (Ext.trans b6 (Ext.trans b7 (Ext.trans b8 (Ext.trans b9 (Ext.trans b10 (Ext.trans b11 b12))))))))))) (by omega) _ _ _) ⟨_, _, rfl, (ON12.out.put (by have := hz.out; have := hz2.out; omega) _ _ _).mono (by have := hz.out; have := hz2.out; omega), (OD12.out.put (by have := hz.out; have := hz2.out; omega) _ _ _).mono (by have := hz.out; have := hz2.out; omega)⟩)
end Go.Proofs.YtgajpmcjjefghaaGreatDoor
