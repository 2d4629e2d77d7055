/- attestlaw17.one -/
import Derived.Test.YtpeeacdnjbcmiaaPTold17
import Derived.Test.YtpeeacdnjbcmiaaPRef17
namespace Go.Proofs.Ytpeeacdnjbcmiaa
open Go.RowKit Go.Att

theorem RdRow.lit {α : Type} {k : Nat} {T : World → Value → α → Prop} (w : World) (E : List (List Value)) (t : TypeId) {l : List α} (hp : Pw k (fun c a => T w (.agg c.toArray) a) E l) (hT : ∀ {w w' v a}, T w v a → Ext w w' → T w' v a) (hl : l.length ≤ maxLen) :
    RdRow k T (w.alloc (.cells E.flatten.toArray t)) (.slice (some ⟨w.heap.size, 0, none⟩) l.length l.length) l :=
  ⟨E, by simpa using RdV.lit w E.flatten.toArray t k l.length (by simpa using hp.flat) hl, hp.mono fun _ _ h => hT h (Ext.alloc _ _)⟩
theorem OwnE.putT {e t : TypeId} {B c m : Nat} {w : World} {v : Value} {a b : Rat} (h : OwnE e B w v a b) (hc : Rt w c m t) (hne : e ≠ t) (i : Nat) (l : List Value) : OwnE e B (Att.putL w c i l) v a b := by
  obtain ⟨n, d, m, c, rfl, h1, h2, h3, h4⟩ := h
  exact ⟨_, _, _, _, rfl, h1.putT hc hne i l, h2.putT hc hne i l, h3.putT hc hne i l, h4.putT hc hne i l⟩
/-- The one member of a row. -/
theorem RdRow.first {α : Type} {k : Nat} {T : World → Value → α → Prop} {w : World} {v : Value} {a : α} (h : RdRow k T w v [a]) (hk : 0 < k) :
    ∃ (b off c : Nat) (cs : List Value), v = .slice (some ⟨b, off, none⟩) 1 c ∧ 1 ≤ c ∧ cs.length = k ∧ T w (.agg cs.toArray) a ∧ ∀ j v, cs[j]? = some v → w.cell? ⟨b, off + j, none⟩ = some v := by
  obtain ⟨a', c, rfl, h1, h2⟩ := h.shape
  obtain ⟨b, off, cs, rfl, h3, h4, h5⟩ := h.at hk 0 (by simp)
  refine ⟨b, off, c, cs, rfl, h1, h3, h4, fun j v hv => ?_⟩
  rw [← hv, ← h5 j (by have := (List.getElem?_eq_some_iff.1 hv).1; omega)]
  simp
set_option linter.unusedSimpArgs false in
theorem one17_any {w : World} {va : Value} {a b : Rat} (hp : RdD w va a b) (sa : Sz 1000000 a) (sb : Sz 1000000 b) :
    Calls Try.prog 43 #[va] w (Gives w fun v' w' => OwnE 4 0 w' v' a b) := by
  refine via fun R hR => ?_
  have HV := Lib.hid hp
  obtain ⟨x0, x1, x2, x3, x4, x5, rfl, h1, h2⟩ := hp
  have SS : Hid (∀ p ∈ [(a, b)], Sz 1000000 p.1 ∧ Sz 1000000 p.2) := by intro p hp; simp at hp; subst hp; exact ⟨sa, sb⟩
  obtain ⟨w1, hw1, b1, c1, -, -, -, z⟩ := bx2 w [x0, x1, x2, x3, x4, x5] [.bool false, .slice none 0 0, .slice none 0 0, .bool false, .slice none 0 0, .slice none 0 0] 56 69
  have RR : Hid (Rt w1 (w.heap.size + 1) 6 69) := by
    rw [hw1]
    have := Rt.new (w.alloc (.cells #[x0, x1, x2, x3, x4, x5] 56)) [.bool false, .slice none 0 0, .slice none 0 0, .bool false, .slice none 0 0, .slice none 0 0] 69
    rw [show (w.alloc (.cells #[x0, x1, x2, x3, x4, x5] 56)).heap.size = w.heap.size + 1 by simp] at this
    exact this
  have HW := Lib.hid hw1
  obtain ⟨k0, k1, k2, k3, k4, k5⟩ := c1.c6
  clear h1 h2 sa sb c1 hw1 z
  go_enter Try.func43, Try.ntmps43
  go_upto_region 1 with (fail)
  rw [← HW.out]
  clear HW
  go_wp2_with fail
  clear k0 k1 k2 k3 k4 k5
  have HL : RdRow 6 RdDp (w1.alloc (.cells #[x0, x1, x2, x3, x4, x5] 56)) (.slice (some ⟨w1.heap.size, 0, none⟩) 1 1) [(a, b)] :=
    RdRow.lit w1 [[x0, x1, x2, x3, x4, x5]] 56 (Pw.one rfl (RdDp.ext (p := (a, b)) HV.out b1)) RdDp.ext (by unfold maxLen; simp)
  have X2 : Ext w1 (w1.alloc (.cells #[x0, x1, x2, x3, x4, x5] 56)) := Ext.alloc _ _
  refine (told17_any HL SS.out (by simp)).mono ?_
  rintro e w3 ⟨v3, rfl, b3, o3⟩
  have X3 := Lib.hid (X2.trans b3)
  obtain ⟨bb, off, c, cs, rfl, hc1, hcl, hT, hcs⟩ := RdRow.first o3.rd (by decide)
  obtain ⟨n, d, m, cc, he, on, od, om, oc⟩ := hT
  obtain ⟨an, cn, rfl, -, -, -, -⟩ := on.rd.shape
  obtain ⟨ad, cd, rfl, -, -, -, -⟩ := od.rd.shape
  obtain ⟨am, cm, rfl, -, -, -, -⟩ := om.rd.shape
  obtain ⟨ac, cc, rfl, -, -, -, -⟩ := oc.rd.shape
  obtain rfl : cs = [.bool (decide (a.num < 0)), .slice an (bitsOf a.num.natAbs).length cn, .slice ad (bitsOf a.den).length cd, .bool (decide (b.num < 0)), .slice am (bitsOf b.num.natAbs).length cm, .slice ac (bitsOf b.den).length cc] := by simpa using congrArg Array.toList (Value.agg.inj he)
  have OE : Hid (OwnE 4 0 w3 (.agg #[.bool (decide (a.num < 0)), .slice an (bitsOf a.num.natAbs).length cn, .slice ad (bitsOf a.den).length cd, .bool (decide (b.num < 0)), .slice am (bitsOf b.num.natAbs).length cm, .slice ac (bitsOf b.den).length cc]) a b) := ⟨_, _, _, _, rfl, on, od, om, oc⟩
  obtain ⟨k0, k1, k2, k3, k4, k5⟩ := Bo.c6 hcs
  have R3 : Hid (Rt w3 (w.heap.size + 1) 6 69) := RR.out.ext X3.out
  obtain ⟨_, _, _, _, _, _, j0, j1, j2, j3, j4, j5, g0, g1, g2, g3, g4, g5⟩ := R3.out.rm.c6
  clear on od om oc hcs he hcl b3 X2 HL
  go_wp2_with fail
  refine bodyPost_ret (v := .agg #[.bool (decide (a.num < 0)), .slice an (bitsOf a.num.natAbs).length cn, .slice ad (bitsOf a.den).length cd, .bool (decide (b.num < 0)), .slice am (bitsOf b.num.natAbs).length cm, .slice ac (bitsOf b.den).length cc]) (by simp [results, Try.results43, go_sem, j0, j1, j2, j3, j4, j5]) rfl ?_
  exact hR.out _ _ (Gives.mk (put6_below (Ext.trans b1 X3.out) (show w.heap.size ≤ w.heap.size + 1 by omega) _ _ _ _ _ _) (OwnE.putT OE.out R3.out (by decide) 0 [_, _, _, _, _, _]))
end Go.Proofs.Ytpeeacdnjbcmiaa
