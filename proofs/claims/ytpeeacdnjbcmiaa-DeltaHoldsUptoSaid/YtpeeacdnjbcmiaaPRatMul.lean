/- rat.Mul -/
import Derived.Test.YtpeeacdnjbcmiaaPRatMade
import Derived.Test.YtpeeacdnjbcmiaaNatAll
namespace Go.Proofs.Ytpeeacdnjbcmiaa
open Go.RowKit Go.Att

theorem rmul_any {w : World} {va vb : Value} {p q : Rat} (hp : RdQ w va p) (hq : RdQ w vb q) (sp : Sz 10000000 p) (sq : Sz 10000000 q) :
    Calls Try.prog 56 #[va, vb] w (Gives w fun v' w' => OwnQ 148 w.heap.size w' v' (p * q)) := by
  refine via fun R hR => ?_
  obtain ⟨n, d, rfl, hn, hd⟩ := hp
  obtain ⟨m, c, rfl, hm, hc⟩ := hq
  have HN := Lib.hid hn
  have HD := Lib.hid hd
  have HM := Lib.hid hm
  have HC := Lib.hid hc
  have SP := Lib.hid sp
  have SQ := Lib.hid sq
  clear hn hd hm hc sp sq
  obtain ⟨w1, hw1, b1, c1, c2, c3, z1⟩ := box2R w (.bool (decide (p.num < 0))) n d (.bool (decide (q.num < 0))) m c (.bool false) (.slice none 0 0) (.slice none 0 0) 28 28 28
  have C1 := Lib.hid c1
  have C2 := Lib.hid c2
  have C3 := Lib.hid c3
  have HW := Lib.hid hw1
  clear c1 c2 c3 hw1
  go_enter Try.func56, Try.ntmps56
  go_wp2_with fail
  rw [← HW.out]
  clear HW
  have b2 := drew_ext w1
  have XE := b2
  go_region_held3 (fun w' => (w'.cell? ⟨w.heap.size, 0, none⟩ = some (.bool (decide (p.num < 0))) ∧ w'.cell? ⟨w.heap.size, 1, none⟩ = some (n) ∧ w'.cell? ⟨w.heap.size, 2, none⟩ = some (d)) ∧ (w'.cell? ⟨w.heap.size + 1, 0, none⟩ = some (.bool (decide (q.num < 0))) ∧ w'.cell? ⟨w.heap.size + 1, 1, none⟩ = some (m) ∧ w'.cell? ⟨w.heap.size + 1, 2, none⟩ = some (c))) (first | exact ⟨C1.out.ext XE, C2.out.ext XE⟩ | exact ⟨(C1.out.ext XE).put (by omega) _ _ _, (C2.out.ext XE).put (by omega) _ _ _⟩)
    (first
     | (go_at_call 101; refine (made_to (r := p * q) (O3.out.rd.ext (Ext.trans b4 (Ext.trans b5 b6))) O6.out.rd (by rw [nv_limbs, nv_limbs]; have := limbs_mul SP.out.1 SQ.out.1; omega) (by rw [nv_bel, nv_bel]; have := limbs_mul SP.out.2 SQ.out.2; omega) (by rw [nv_limbs, nv_bel, nv_bel]; exact Nat.mul_ne_zero p.den_nz q.den_nz) (by rw [nv_limbs, nv_limbs, nv_limbs, nv_limbs, nv_bel, nv_bel]; exact mulQ p q)).mono ?_; rintro e w7 ⟨_, rfl, b7, n7, d7, rfl, on7, od7⟩; have ON7 := Lib.hid on7; have OD7 := Lib.hid od7; clear on7 od7; obtain ⟨an7, cn7, rfl, -, -, -, -⟩ := ON7.out.rd.1.shape; obtain ⟨ad7, cd7, rfl, -, -, -, -⟩ := OD7.out.rd.1.shape; (first | have XE := Ext.trans XE b7 | have XE := Ext.trans (Ext.trans XE (Ext.alloc _ _)) b7); obtain ⟨_, _, _, j0, j1, j2, g0, g1, g2⟩ := (C3.out.ext XE).cells)
     | (go_at_call 99; refine (mul_any (O4.out.ext b5) O5.out (by have := SP.out.2; have := bel_len p.den; omega) (by have := SQ.out.2; have := bel_len q.den; omega)).mono ?_; rintro e w6 ⟨v6, rfl, b6, o6⟩; have O6 := Lib.hid o6; clear o6; (first | have XE := Ext.trans XE b6 | have XE := Ext.trans (Ext.trans XE (Ext.alloc _ _)) b6))
     | (go_at_call 100; refine (below_any (HC.out.ext (Ext.trans b1 (Ext.trans b2 (Ext.trans b3 b4))))).mono ?_; rintro e w5 ⟨v5, rfl, b5, o5⟩; have O5 := Lib.hid o5; clear o5; (first | have XE := Ext.trans XE b5 | have XE := Ext.trans (Ext.trans XE (Ext.alloc _ _)) b5))
     | (go_at_call 100; refine (below_any (HD.out.ext (Ext.trans b1 (Ext.trans b2 b3)))).mono ?_; rintro e w4 ⟨v4, rfl, b4, o4⟩; have O4 := Lib.hid o4; clear o4; (first | have XE := Ext.trans XE b4 | have XE := Ext.trans (Ext.trans XE (Ext.alloc _ _)) b4))
     | (go_at_call 99; refine (mul_any (HN.out.ext (Ext.trans b1 b2)) (HM.out.ext (Ext.trans b1 b2)) (by have := SP.out.1; omega) (by have := SQ.out.1; omega)).mono ?_; rintro e w3 ⟨v3, rfl, b3, o3⟩; have O3 := Lib.hid o3; clear o3; (first | have XE := Ext.trans XE b3 | have XE := Ext.trans (Ext.trans XE (Ext.alloc _ _)) b3)))
  go_wp2_with fail
  refine bodyPost_ret (v := .agg #[.bool (decide ((p * q).num < 0)), .slice an7 (limbs (p * q).num.natAbs).length cn7, .slice ad7 (dens (p * q).den).length cd7]) (by simp [results, Try.results56, go_sem, j0, j1, j2]) rfl ?_
  have hz := Lib.hid (Below.size (Ext.trans b2 (Ext.trans b3 (Ext.trans b4 (Ext.trans b5 b6)))))
  exact hR.out _ _ (Gives.mk (put3_below (Ext.trans b1 (Ext.trans b2 (Ext.trans b3 (Ext.trans b4 (Ext.trans b5 (Ext.trans b6 b7)))))) (by omega) _ _ _) ⟨_, _, rfl, (ON7.out.put (by have := hz.out; omega) _ _ _).mono (by have := hz.out; omega), (OD7.out.put (by have := hz.out; omega) _ _ _).mono (by have := hz.out; omega)⟩)
end Go.Proofs.Ytpeeacdnjbcmiaa
