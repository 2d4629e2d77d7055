/- rat.Sum -/
import Derived.Test.YtjnbhinjpinkaaaPRatAdd
import Derived.Test.YtjnbhinjpinkaaaRatPlain
namespace Go.Proofs.Ytjnbhinjpinkaaa
open Go.RowKit Go.Att

/-- The sum of a list. -/
def sumL : List Rat → Rat
  | [] => 0
  | q :: l => q + sumL l
theorem sumL_snoc (l : List Rat) (q : Rat) : sumL (l ++ [q]) = sumL l + q := by
  induction l with
  | nil => show q + 0 = 0 + q; rw [Rat.add_zero, Rat.zero_add]
  | cons x r ih => show x + sumL (r ++ [q]) = x + sumL r + q; rw [ih, Rat.add_assoc]
/-- Slice v reads as these numbers. -/
def RdQs (w : World) (v : Value) (qs : List Rat) : Prop := ∃ a cap, v = .slice a qs.length cap ∧ qs.length ≤ cap ∧ cap ≤ maxLen ∧
  ∀ i, (h : i < qs.length) → ∃ b off x n d, a = some ⟨b, off, none⟩ ∧ w.cell? ⟨b, off + i * 3, none⟩ = some x ∧ w.cell? ⟨b, off + i * 3 + 1, none⟩ = some n ∧ w.cell? ⟨b, off + i * 3 + 2, none⟩ = some d ∧ RdQ w (.agg #[x, n, d]) qs[i]

theorem ownq_zero (e : TypeId) (B : Nat) (w : World) : OwnQ e B w (.agg #[.bool false, .slice none 0 0, .slice none 0 0]) 0 := by
  have h1 : limbs (0 : Rat).num.natAbs = [] := by rw [Rat.zero_num]; exact limbs_zero
  have h2 : dens (0 : Rat).den = [] := rfl
  exact ⟨_, _, agg_eq (by rw [Rat.zero_num]; rfl), by rw [h1]; exact ⟨OwnI.nil _ _ _ _, Fit.nil _⟩, by rw [h2]; exact ⟨OwnI.nil _ _ _ _, Fit.nil _⟩⟩
theorem put3_size (w : World) (c : Nat) (x y z : Value) : (put3 w c x y z).heap.size = w.heap.size := by simp [put3, World.setCell]
theorem Room3.put_self {w : World} {c : Nat} (h : Room3 w c) (x y z : Value) : Room3 (put3 w c x y z) c := by
  obtain ⟨x', y', z', t, h⟩ := h
  have h0 := heap_setCell_same w c 0 _ t x h
  have h1 := heap_setCell_same _ c 1 _ t y h0
  have h2 := heap_setCell_same _ c 2 _ t z h1
  exact ⟨x, y, z, t, h2⟩

set_option maxHeartbeats 1000000 in
theorem rsuml_any {w : World} {v : Value} {qs : List Rat} (hq : RdQs w v qs) (hs : ∀ q ∈ qs, Sz 8 q) (hn : qs.length ≤ 1000) :
    Calls Try.prog 42 #[v] w (Gives w fun v' w' => OwnQ 90 w.heap.size w' v' (sumL qs)) := by
  refine via fun R hR => ?_
  obtain ⟨a, cap, rfl, h1, h2, hc⟩ := hq
  have HC := Lib.hid hc
  have HS := Lib.hid hs
  unfold maxLen at h2
  clear hc hs
  obtain ⟨w1, hw1, b1, c0, c1, r1, z1⟩ : ∃ W, W = (w.alloc (.cells #[.bool false, .slice none 0 0, .slice none 0 0] 36)).alloc (.cells #[.bool false, .slice none 0 0, .slice none 0 0] 36) ∧ Ext w W ∧ Room3 W w.heap.size ∧ Box3 W (w.heap.size + 1) (.bool false) (.slice none 0 0) (.slice none 0 0) ∧ Room3 W (w.heap.size + 1) ∧ W.heap.size = w.heap.size + 2 := by
    obtain ⟨W, hW, e, _, r, r', s⟩ := box1R w (.bool false) (.slice none 0 0) (.slice none 0 0) (.bool false) (.slice none 0 0) (.slice none 0 0) 36 36
    obtain ⟨V, hV, _, _, b', s'⟩ := box2 w (.bool false) (.slice none 0 0) (.slice none 0 0) (.bool false) (.slice none 0 0) (.slice none 0 0) 36 36
    exact ⟨W, hW, e, r, by rw [hW, ← hV]; exact b', r', s⟩
  have C0 := Lib.hid c0
  have C1 := Lib.hid c1
  have R1 := Lib.hid r1
  have HW := Lib.hid hw1
  have Z1 := Lib.hid z1
  clear c0 c1 r1 hw1 z1
  go_enter Try.func42, Try.ntmps42
  go_wp2_with fail
  rw [← HW.out]
  clear HW
  go_loopw [9] (fun i wr => ∃ (k : Nat) (x n d : Value), i = .int .i64 k ∧ k ≤ qs.length ∧ Ext w wr ∧ Hid (w.heap.size + 2 ≤ wr.heap.size) ∧ Hid (Room3 wr w.heap.size) ∧ Hid (Room3 wr (w.heap.size + 1)) ∧ Hid (Box3 wr (w.heap.size + 1) x n d) ∧ Hid (OwnQ 90 (w.heap.size + 2) wr (.agg #[x, n, d]) (sumL (qs.take k))) ∧ Hid (Sz (9 * k + 1) (sumL (qs.take k)))) (fun i _ => qs.length - (intOf i).toNat)
  case atStart => exact ⟨0, _, _, _, rfl, Nat.zero_le _, b1, by have := Z1.out; show _ ≤ _; omega, C0, R1, C1, by rw [List.take_zero]; exact ownq_zero _ _ _, by rw [List.take_zero]; exact Sz.zero⟩
  case round =>
    obtain ⟨k, x, n, d, rfl, hk, hx, hz, hr0, hr1, hb, hq, hsz⟩ := hrel
    by_cases hlt : k < qs.length
    · obtain ⟨b, off, x2, n2, d2, rfl, e0, e1, e2, hq2⟩ := HC.out k hlt
      have m0 := Ext.cell hx e0
      have m1 := Ext.cell hx e1
      have m2 := Ext.cell hx e2
      obtain ⟨n3, d3, he, hn3, hd3⟩ := hq2
      obtain ⟨rfl, rfl, rfl⟩ : x2 = .bool (decide (qs[k].num < 0)) ∧ n2 = n3 ∧ d2 = d3 := by simpa using he
      have sq := Lib.hid (HS.out qs[k] (List.getElem_mem hlt))
      have hsum : Hid (sumL (qs.take (k + 1)) = sumL (qs.take k) + qs[k]) := by show _ = _; rw [← List.take_append_getElem hlt, sumL_snoc]
      generalize qs[k] = q2 at *
      obtain ⟨an, cn, rfl, -, -, -, -⟩ := hn3.1.shape
      obtain ⟨ad, cd, rfl, -, -, -, -⟩ := hd3.1.shape
      have RQ2 : Hid (RdQ w (.agg #[.bool (decide (q2.num < 0)), .slice an (limbs q2.num.natAbs).length cn, .slice ad (dens q2.den).length cd]) q2) := ⟨_, _, rfl, hn3, hd3⟩
      obtain ⟨w2, hw, b2, c2, -, z2⟩ := box1 wr (.bool (decide (q2.num < 0))) (.slice an (limbs q2.num.natAbs).length cn) (.slice ad (dens q2.den).length cd) 36
      have HW := Lib.hid hw
      have C2 := Lib.hid c2
      have Z2 := Lib.hid z2
      clear hw c2 z2 he hn3 hd3 e0 e1 e2
      go_upto_region 5 with (fail)
      rw [← HW.out]
      clear HW m0 m1 m2
      generalize Value.slice an (limbs q2.num.natAbs).length cn = n2 at *
      generalize Value.slice ad (dens q2.den).length cd = d2 at *
      generalize Value.bool (decide (q2.num < 0)) = x2 at *
      obtain ⟨k0, k1, k2⟩ := hb.out.ext b2
      obtain ⟨l0, l1, l2⟩ := C2.out
      have hold := Lib.hid hsum.out.symm
      generalize hS2 : sumL (qs.take (k + 1)) = S2 at *
      have HS2 := Lib.hid hS2
      clear hS2
      go_wp2_with fail
      clear k0 k1 k2 l0 l1 l2
      refine (hold.out ▸ radd_any (hq.out.rd.ext b2) (RQ2.out.ext (Ext.trans hx b2)) (hsz.out.le (by omega)) (sq.out.le (by omega))).mono ?_
      rintro e w3 ⟨_, rfl, b3, n4, d4, rfl, on, od⟩
      obtain ⟨an4, cn4, rfl, -, -, -, -⟩ := on.rd.1.shape
      obtain ⟨ad4, cd4, rfl, -, -, -, -⟩ := od.rd.1.shape
      have ON := Lib.hid on
      have OD := Lib.hid od
      obtain ⟨_, _, _, j0, j1, j2, g0, g1, g2⟩ := (hr1.out.ext (Ext.trans b2 b3)).cells
      have SZ2 : Hid (Sz (9 * (k + 1) + 1) S2) := by rw [← hold.out]; exact (hsz.out.add sq.out).le (by omega)
      clear on od
      have hz2 : wr.heap.size ≤ w3.heap.size := Below.size (Ext.trans b2 b3)
      go_wp2_with fail
      go_roundw
      case rel =>
        have hz0 := hz.out
        have hz3 := Z2.out
        have hw3 : Ext w (put3 w3 (w.heap.size + 1) (.bool (decide (S2.num < 0))) (.slice an4 (limbs S2.num.natAbs).length cn4) (.slice ad4 (dens S2.den).length cd4)) := put3_below (Ext.trans hx (Ext.trans b2 b3)) (by omega) _ _ _
        have hsz3 : Hid (w.heap.size + 2 ≤ (put3 w3 (w.heap.size + 1) (.bool (decide (S2.num < 0))) (.slice an4 (limbs S2.num.natAbs).length cn4) (.slice ad4 (dens S2.den).length cd4)).heap.size) := by show _ ≤ _; rw [put3_size]; omega
        have hown : Hid (OwnQ 90 (w.heap.size + 2) (put3 w3 (w.heap.size + 1) (.bool (decide (S2.num < 0))) (.slice an4 (limbs S2.num.natAbs).length cn4) (.slice ad4 (dens S2.den).length cd4)) (.agg #[.bool (decide (S2.num < 0)), .slice an4 (limbs S2.num.natAbs).length cn4, .slice ad4 (dens S2.den).length cd4]) S2) := ⟨_, _, rfl, (ON.out.put (by omega) _ _ _).mono (by omega), (OD.out.put (by omega) _ _ _).mono (by omega)⟩
        exact ⟨k + 1, _, _, _, by go_num, by omega, hw3, hsz3, (hr0.out.ext (Ext.trans b2 b3)).put (by omega) _ _ _, Room3.put_self (hr1.out.ext (Ext.trans b2 b3)) _ _ _, Box3.put_at (hr1.out.ext (Ext.trans b2 b3)) _ _ _, by rw [HS2.out]; exact hown.out, by rw [HS2.out]; exact SZ2.out⟩
      case measure => simp [intOf] <;> omega
    · have e : Hid (qs.take k = qs) := List.take_of_length_le (by omega)
      obtain ⟨n3, d3, he, on, od⟩ := hq.out
      obtain ⟨rfl, rfl, rfl⟩ : x = .bool (decide ((sumL (qs.take k)).num < 0)) ∧ n = n3 ∧ d = d3 := by simpa using he
      rw [e.out] at on od hb
      obtain ⟨an4, cn4, rfl, -, -, -, -⟩ := on.rd.1.shape
      obtain ⟨ad4, cd4, rfl, -, -, -, -⟩ := od.rd.1.shape
      have ON := Lib.hid on
      have OD := Lib.hid od
      obtain ⟨k0, k1, k2⟩ := hb.out
      obtain ⟨_, _, _, j0, j1, j2, g0, g1, g2⟩ := hr0.out.cells
      clear on od he hq hr1
      generalize sumL qs = S at *
      go_wp2_with fail
      refine bodyPost_ret (v := .agg #[.bool (decide (S.num < 0)), .slice an4 (limbs S.num.natAbs).length cn4, .slice ad4 (dens S.den).length cd4]) (by simp [results, Try.results42, go_sem, j0, j1, j2]) rfl ?_
      exact hR.out _ _ (Gives.mk (put3_below hx (Nat.le_refl _) _ _ _) ⟨_, _, rfl, (ON.out.put (by omega) _ _ _).mono (by omega), (OD.out.put (by omega) _ _ _).mono (by omega)⟩)
end Go.Proofs.Ytjnbhinjpinkaaa
