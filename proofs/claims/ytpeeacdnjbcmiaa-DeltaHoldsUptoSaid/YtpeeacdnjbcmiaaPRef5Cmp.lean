/- attestref05.Cmp -/
import Derived.Test.YtpeeacdnjbcmiaaPRef5Add
import Derived.Test.YtpeeacdnjbcmiaaPRef5Neg
namespace Go.Proofs.Ytpeeacdnjbcmiaa
open Go.RowKit Go.Att

theorem r5cmp_any {w : World} {va vb : Value} {p q : Rat} (hp : RdP w va p) (hq : RdP w vb q) (sp : Sb 50000 p) (sq : Sb 50000 q) :
    Calls Try.prog 66 #[va, vb] w (Gives w fun v' _ => v' = .int .i64 (p - q).num.sign) := by
  refine via fun R hR => ?_
  have HP := Lib.hid hp
  have HQ := Lib.hid hq
  obtain ⟨n, d, rfl, hn, hd⟩ := hp
  obtain ⟨m, c, rfl, hm, hc⟩ := hq
  have SP := Lib.hid sp
  have SQ := Lib.hid sq
  clear hn hd hm hc sp sq
  obtain ⟨w1, hw1, b1, c1, c2, _⟩ := box2 w (.bool (decide (p.num < 0))) n d (.bool (decide (q.num < 0))) m c 33 33
  have C1 := Lib.hid c1
  have C2 := Lib.hid c2
  have HW := Lib.hid hw1
  rw [Rat.sub_eq_add_neg] at hR
  clear hw1 c1 c2
  go_enter Try.func66, Try.ntmps66
  go_wp2_with fail
  rw [← HW.out]
  clear HW
  have b2 := drew_ext w1
  have XE := b2
  go_region_held3 (fun w' => (w'.cell? ⟨w.heap.size, 0, none⟩ = some (.bool (decide (p.num < 0))) ∧ w'.cell? ⟨w.heap.size, 1, none⟩ = some (n) ∧ w'.cell? ⟨w.heap.size, 2, none⟩ = some (d)) ∧ (w'.cell? ⟨w.heap.size + 1, 0, none⟩ = some (.bool (decide (q.num < 0))) ∧ w'.cell? ⟨w.heap.size + 1, 1, none⟩ = some (m) ∧ w'.cell? ⟨w.heap.size + 1, 2, none⟩ = some (c))) (exact ⟨C1.out.ext XE, C2.out.ext XE⟩)
    (first
     | (go_at_call 108; refine (r5sign_any O4.out.rd).mono ?_; rintro e w5 ⟨_, rfl, b5, rfl⟩; (first | have XE := Ext.trans XE b5 | have XE := Ext.trans (Ext.trans XE (Ext.alloc _ _)) b5))
     | (go_at_call 20; refine (r5add_any (HP.out.ext (Ext.trans b1 (Ext.trans b2 b3))) O3.out SP.out SQ.out.neg).mono ?_; rintro e w4 ⟨v4, rfl, b4, o4⟩; have O4 := Lib.hid o4; clear o4; (first | have XE := Ext.trans XE b4 | have XE := Ext.trans (Ext.trans XE (Ext.alloc _ _)) b4))
     | (go_at_call 22; refine (r5neg_any (HQ.out.ext (Ext.trans b1 b2))).mono ?_; rintro e w3 ⟨v3, rfl, b3, o3⟩; have O3 := Lib.hid o3; clear o3; (first | have XE := Ext.trans XE b3 | have XE := Ext.trans (Ext.trans XE (Ext.alloc _ _)) b3)))
  go_wp2_with fail
  exact hR.out _ _ (Gives.mk (Ext.trans b1 (Ext.trans b2 (Ext.trans b3 (Ext.trans b4 b5)))) rfl)
end Go.Proofs.Ytpeeacdnjbcmiaa
