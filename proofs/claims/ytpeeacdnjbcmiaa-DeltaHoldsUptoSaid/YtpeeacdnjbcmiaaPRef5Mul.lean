/- attestref05.Mul -/
import Derived.Test.YtpeeacdnjbcmiaaPRef5Of
import Derived.Test.YtpeeacdnjbcmiaaPRef5Low
import Derived.Test.YtpeeacdnjbcmiaaRefAll
namespace Go.Proofs.Ytpeeacdnjbcmiaa
open Go.RowKit Go.Att

theorem r5of_to {w : World} {s : Bool} {va vb : Value} {n d : Nat} {r : Rat} (B : Nat) (ha : OwnB 4 B w va (bitsOf n)) (hb : OwnB 4 B w vb (bitsOf d)) (hB : B ≤ w.heap.size) (hna : (bitsOf n).length ≤ 100000000) (hnb : (bitsOf d).length ≤ 100000000) (h0 : d ≠ 0) (hr : mkQ s n d = r) :
    Calls Try.prog 87 #[.bool s, va, vb] w (Gives w fun v' w' => OwnP 4 B w' v' r) := hr ▸ r5of_any hB ha hb hna hnb h0
theorem r3mul_to {w : World} {va vb : Value} (n m : Nat) (ha : RdB w va (bitsOf n)) (hb : RdB w vb (bitsOf m)) (hla : (bitsOf n).length ≤ 50000) (hlb : (bitsOf m).length ≤ 50000) :
    Calls Try.prog 90 #[va, vb] w (Gives w fun v' w' => OwnB 4 w.heap.size w' v' (bitsOf (n * m))) := by
  have h := r3Mul_any ha hb (by omega) (by omega)
  rw [bval_bitsOf, bval_bitsOf] at h
  exact h

theorem r5mul_any {w : World} {va vb : Value} {p q : Rat} (hp : RdP w va p) (hq : RdP w vb q) (sp : Sb 50000 p) (sq : Sb 50000 q) :
    Calls Try.prog 25 #[va, vb] w (Gives w fun v' w' => OwnP 4 w.heap.size w' v' (p * q)) := by
  refine via fun R hR => ?_
  generalize hr : p * q = r at hR
  have HRR := Lib.hid hr
  have HP := Lib.hid hp
  have HQ := Lib.hid hq
  clear hr
  obtain ⟨n, d, rfl, hn, hd⟩ := hp
  obtain ⟨m, c, rfl, hm, hc⟩ := hq
  have HN := Lib.hid hn
  have HM := Lib.hid hm
  have SP := Lib.hid sp
  have SQ := Lib.hid sq
  clear hn hd hm hc sp sq
  obtain ⟨w1, hw1, b1, c1, c2, c3, z1⟩ := box2R w (.bool (decide (p.num < 0))) n d (.bool (decide (q.num < 0))) m c (.bool false) (.slice none 0 0) (.slice none 0 0) 33 33 33
  have C1 := Lib.hid c1
  have C2 := Lib.hid c2
  have C3 := Lib.hid c3
  have HW := Lib.hid hw1
  clear c1 c2 c3 hw1
  go_enter Try.func25, Try.ntmps25
  go_wp2_with fail
  rw [← HW.out]
  clear HW
  have b2 := drew_ext w1
  have XE := b2
  go_region_held3 (fun w' => (w'.cell? ⟨w.heap.size, 0, none⟩ = some (.bool (decide (p.num < 0))) ∧ w'.cell? ⟨w.heap.size, 1, none⟩ = some (n) ∧ w'.cell? ⟨w.heap.size, 2, none⟩ = some (d)) ∧ (w'.cell? ⟨w.heap.size + 1, 0, none⟩ = some (.bool (decide (q.num < 0))) ∧ w'.cell? ⟨w.heap.size + 1, 1, none⟩ = some (m) ∧ w'.cell? ⟨w.heap.size + 1, 2, none⟩ = some (c))) (first | exact ⟨C1.out.ext XE, C2.out.ext XE⟩ | exact ⟨(C1.out.ext XE).put (by omega) _ _ _, (C2.out.ext XE).put (by omega) _ _ _⟩)
    (first
     | (go_at_call 87; refine (r5of_to (r := r) w1.heap.size ((O3.out.ext (Ext.trans b4 (Ext.trans b5 b6))).mono (Nat.le_refl _)) (O6.out.mono (Below.size (Ext.trans b2 (Ext.trans b3 (Ext.trans b4 b5))))) (Below.size (Ext.trans b2 (Ext.trans b3 (Ext.trans b4 (Ext.trans b5 b6))))) (by have := bits_mul SP.out.1 SQ.out.1; omega) (by have := bits_mul SP.out.2 SQ.out.2; omega) (Nat.mul_ne_zero p.den_nz q.den_nz) ((mulQ p q).trans HRR.out)).mono ?_; rintro e w7 ⟨_, rfl, b7, n7, d7, rfl, on7, od7⟩; have ON7 := Lib.hid on7; have OD7 := Lib.hid od7; clear on7 od7; obtain ⟨an7, cn7, rfl, -, -, -, -⟩ := ON7.out.rd.shape; obtain ⟨ad7, cd7, rfl, -, -, -, -⟩ := OD7.out.rd.shape; (first | have XE := Ext.trans XE b7 | have XE := Ext.trans (Ext.trans XE (Ext.alloc _ _)) b7); obtain ⟨_, _, _, j0, j1, j2, g0, g1, g2⟩ := (C3.out.ext XE).cells)
     | (go_at_call 90; refine (r3mul_to _ _ (O4.out.ext b5) O5.out SP.out.2 SQ.out.2).mono ?_; rintro e w6 ⟨v6, rfl, b6, o6⟩; have O6 := Lib.hid o6; clear o6; (first | have XE := Ext.trans XE b6 | have XE := Ext.trans (Ext.trans XE (Ext.alloc _ _)) b6))
     | (go_at_call 91; refine (r5low_any (HQ.out.ext (Ext.trans b1 (Ext.trans b2 (Ext.trans b3 b4))))).mono ?_; rintro e w5 ⟨v5, rfl, b5, o5⟩; have O5 := Lib.hid o5; clear o5; (first | have XE := Ext.trans XE b5 | have XE := Ext.trans (Ext.trans XE (Ext.alloc _ _)) b5))
     | (go_at_call 91; refine (r5low_any (HP.out.ext (Ext.trans b1 (Ext.trans b2 b3)))).mono ?_; rintro e w4 ⟨v4, rfl, b4, o4⟩; have O4 := Lib.hid o4; clear o4; (first | have XE := Ext.trans XE b4 | have XE := Ext.trans (Ext.trans XE (Ext.alloc _ _)) b4))
     | (go_at_call 90; refine (r3mul_to _ _ (HN.out.ext (Ext.trans b1 b2)) (HM.out.ext (Ext.trans b1 b2)) SP.out.1 SQ.out.1).mono ?_; rintro e w3 ⟨v3, rfl, b3, o3⟩; have O3 := Lib.hid o3; clear o3; (first | have XE := Ext.trans XE b3 | have XE := Ext.trans (Ext.trans XE (Ext.alloc _ _)) b3)))
  go_wp2_with fail
  refine bodyPost_ret (v := .agg #[.bool (decide (r.num < 0)), .slice an7 (bitsOf r.num.natAbs).length cn7, .slice ad7 (bitsOf r.den).length cd7]) (by simp [results, Try.results25, go_sem, j0, j1, j2]) rfl ?_
  exact hR.out _ _ (Gives.mk (put3_below (Ext.trans b1 (Ext.trans b2 (Ext.trans b3 (Ext.trans b4 (Ext.trans b5 (Ext.trans b6 b7)))))) (by omega) _ _ _) ⟨_, _, rfl, (ON7.out.put (by omega) _ _ _).mono (by omega), (OD7.out.put (by omega) _ _ _).mono (by omega)⟩)
end Go.Proofs.Ytpeeacdnjbcmiaa
