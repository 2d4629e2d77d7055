/- rat.Sub -/
import Derived.Test.YtgajpmcjjefghaaGreatDoorPRatAdd
import Derived.Test.YtgajpmcjjefghaaGreatDoorPRatNeg
namespace Go.Proofs.YtgajpmcjjefghaaGreatDoor
open Go.RowKit Go.Att

theorem rsub_any {w : World} {va vb : Value} {p q : Rat} (hp : RdQ w va p) (hq : RdQ w vb q) (sp : Sz 10000000 p) (sq : Sz 10000000 q) :
    Calls Tryz.prog 17 #[va, vb] w (Gives w fun v' w' => OwnQ 57 w.heap.size w' v' (p - q)) := by
  refine via fun R hR => ?_
  rw [Rat.sub_eq_add_neg] at hR
  generalize hr : p + -q = r at hR
  have HRR := Lib.hid hr
  have HP := Lib.hid hp
  have HQ := Lib.hid hq
  clear hr
  obtain ⟨n, d, rfl, hn, hd⟩ := hp
  obtain ⟨m, c, rfl, hm, hc⟩ := hq
  have SP := Lib.hid sp
  have SQ := Lib.hid sq
  clear hn hd hm hc sp sq
  obtain ⟨w1, hw1, b1, c1, c2, c3, z1⟩ := box2R w (.bool (decide (p.num < 0))) n d (.bool (decide (q.num < 0))) m c (.bool false) (.slice none 0 0) (.slice none 0 0) 26 26 26
  have C1 := Lib.hid c1
  have C2 := Lib.hid c2
  have C3 := Lib.hid c3
  have HW := Lib.hid hw1
  clear c1 c2 c3 hw1
  go_enter Tryz.func17, Tryz.ntmps17
  go_wp2_with fail
  rw [← HW.out]
  clear HW
  have b2 := drew_ext w1
  have XE := b2
  go_region_held3 (fun w' => (w'.cell? ⟨w.heap.size, 0, none⟩ = some (.bool (decide (p.num < 0))) ∧ w'.cell? ⟨w.heap.size, 1, none⟩ = some (n) ∧ w'.cell? ⟨w.heap.size, 2, none⟩ = some (d)) ∧ (w'.cell? ⟨w.heap.size + 1, 0, none⟩ = some (.bool (decide (q.num < 0))) ∧ w'.cell? ⟨w.heap.size + 1, 1, none⟩ = some (m) ∧ w'.cell? ⟨w.heap.size + 1, 2, none⟩ = some (c))) (first | exact ⟨C1.out.ext XE, C2.out.ext XE⟩ | exact ⟨(C1.out.ext XE).put (by omega) _ _ _, (C2.out.ext XE).put (by omega) _ _ _⟩)
    (first
     | (go_at_call 47; refine (HRR.out ▸ radd_any (HP.out.ext (Ext.trans b1 (Ext.trans b2 b3))) O3.out SP.out SQ.out.neg).mono ?_; rintro e w4 ⟨_, rfl, b4, n4, d4, rfl, on4, od4⟩; have ON4 := Lib.hid on4; have OD4 := Lib.hid od4; clear on4 od4; obtain ⟨an4, cn4, rfl, -, -, -, -⟩ := ON4.out.rd.1.shape; obtain ⟨ad4, cd4, rfl, -, -, -, -⟩ := OD4.out.rd.1.shape; (first | have XE := Ext.trans XE b4 | have XE := Ext.trans (Ext.trans XE (Ext.alloc _ _)) b4); obtain ⟨_, _, _, j0, j1, j2, g0, g1, g2⟩ := (C3.out.ext XE).cells)
     | (go_at_call 48; refine (rneg_any (HQ.out.ext (Ext.trans b1 b2))).mono ?_; rintro e w3 ⟨v3, rfl, b3, o3⟩; have O3 := Lib.hid o3; clear o3; (first | have XE := Ext.trans XE b3 | have XE := Ext.trans (Ext.trans XE (Ext.alloc _ _)) b3)))
  go_wp2_with fail
  refine bodyPost_ret (v := .agg #[.bool (decide (r.num < 0)), .slice an4 (limbs r.num.natAbs).length cn4, .slice ad4 (dens r.den).length cd4]) (by simp [results, Tryz.results17, go_sem, j0, j1, j2]) rfl ?_
  have hz := Lib.hid (Below.size (Ext.trans b2 b3))
  exact hR.out _ _ (Gives.mk (put3_below (Ext.trans b1 (Ext.trans b2 (Ext.trans b3 b4))) (by omega) _ _ _) ⟨_, _, rfl, (ON4.out.put (by have := hz.out; omega) _ _ _).mono (by have := hz.out; omega), (OD4.out.put (by have := hz.out; omega) _ _ _).mono (by have := hz.out; omega)⟩)
end Go.Proofs.YtgajpmcjjefghaaGreatDoor
