/- attestref06.Print, Smt -/
import Derived.Test.YtgajpmcjjefghaaDoorPRtext
namespace Go.Proofs.YtgajpmcjjefghaaDoor
open Go.RowKit Go.Att

theorem den_bits {d : Nat} (h0 : d ≠ 0) : 1 < (bitsOf d).length ↔ d ≠ 1 := by
  have h1 := bitsOf_len d 1
  have h2 : d < 2 ^ 1 ↔ d < 2 := Iff.rfl
  omega
theorem text_longB {n k : Nat} (h : (bitsOf n).length ≤ k) (h0 : 0 < k) : (dtext n).length ≤ k := by
  have h1 : 2 ^ k ≤ 10 ^ k := Nat.pow_le_pow_left (by decide) k
  exact dtext_len_le (Nat.lt_of_lt_of_le ((bitsOf_len n k).1 h) h1) h0
set_option maxHeartbeats 1000000 in
set_option linter.unusedSimpArgs false in
theorem r6print_any {w : World} {v : Value} {q : Rat} (hq : RdP w v q) (hs : Sb 500000 q) :
    Calls Tryd.prog 31 #[v] w (Gives w fun v' _ => v' = .string (strOf (printT q))) := by
  refine via fun R hR => ?_
  have HQ := Lib.hid hq
  obtain ⟨n, d, rfl, hn, hd⟩ := hq
  obtain ⟨an, cn, rfl, -, -, -, -⟩ := hn.shape
  obtain ⟨ad, cd, rfl, -, -, -, -⟩ := hd.shape
  have HT1 : Hid (∀ w', Ext w w' → Calls Tryd.prog 23 #[.slice an (bitsOf q.num.natAbs).length cn] w' (Gives w' fun v' _ => v' = .string (strOf (dtext q.num.natAbs)))) := fun w' x => r4text_any (hn.ext x) (Nat.le_trans hs.1 (by decide)) (Nat.le_trans (text_longB hs.1 (by decide)) (by decide))
  have HT2 : Hid (∀ w', Ext w w' → Calls Tryd.prog 23 #[.slice ad (bitsOf q.den).length cd] w' (Gives w' fun v' _ => v' = .string (strOf (dtext q.den)))) := fun w' x => r4text_any (hd.ext x) (Nat.le_trans hs.2 (by decide)) (Nat.le_trans (text_longB hs.2 (by decide)) (by decide))
  have h2 : (strOf (dtext q.num.natAbs)).size ≤ 500000 := by rw [strOf_size]; exact text_longB hs.1 (by decide)
  have h3 : (strOf (dtext q.den)).size ≤ 500000 := by rw [strOf_size]; exact text_longB hs.2 (by decide)
  have hdb := den_bits q.den_nz
  obtain ⟨w1, hw1, b1, c1, -, -⟩ := bx1 w [.bool (decide (q.num < 0)), .slice an (bitsOf q.num.natAbs).length cn, .slice ad (bitsOf q.den).length cd] 52
  have HW := Lib.hid hw1
  have C1 := Lib.hid c1
  clear hw1 c1 hs hn hd HQ
  obtain ⟨L, hL⟩ : ∃ L, (bitsOf q.den).length = L := ⟨_, rfl⟩
  rw [hL] at hdb
  rw [hL] at HT2 C1 HW ⊢
  clear hL
  generalize (bitsOf q.num.natAbs).length = L0 at *
  have l47 : strOf [40, 47, 32] = ⟨#[40, 47, 32]⟩ := by unfold strOf; rfl
  have l32 : strOf [32] = ⟨#[32]⟩ := by unfold strOf; rfl
  have l41 : strOf [41] = ⟨#[41]⟩ := by unfold strOf; rfl
  have l45 : strOf [40, 45, 32] = ⟨#[40, 45, 32]⟩ := by unfold strOf; rfl
  have l4 : strOf [45] = ⟨#[45]⟩ := by unfold strOf; rfl
  have l7 : strOf [47] = ⟨#[47]⟩ := by unfold strOf; rfl
  have s47 : (⟨#[40, 47, 32]⟩ : ByteArray).size = 3 := rfl
  have s32 : (⟨#[32]⟩ : ByteArray).size = 1 := rfl
  have s41 : (⟨#[41]⟩ : ByteArray).size = 1 := rfl
  have s45 : (⟨#[40, 45, 32]⟩ : ByteArray).size = 3 := rfl
  have s4 : (⟨#[45]⟩ : ByteArray).size = 1 := rfl
  have s7 : (⟨#[47]⟩ : ByteArray).size = 1 := rfl
  go_enter Tryd.func31, Tryd.ntmps31
  go_upto_region 1 with (fail)
  rw [← HW.out]
  clear HW
  obtain ⟨k0, k1, k2⟩ := C1.out.c3
  go_wp2_with fail
  clear k0 k1 k2
  refine (HT1.out _ b1).mono ?_
  rintro e w2 ⟨_, rfl, b2, rfl⟩
  by_cases hd : q.den = 1
  · have hL1 : ¬ 1 < L := fun h => hdb.1 h hd
    have hdL : decide (1 < L) = false := decide_eq_false hL1
    by_cases hn : q.num < 0
    · have hnd := decide_eq_true hn
      have HP : Hid (strOf (printT q) = ⟨#[45]⟩ ++ strOf (dtext q.num.natAbs)) := by
        show _ = _
        unfold printT signT
        simp only [if_pos hd, if_pos hn, strOf_app, l45, l41, l47, l32, l4, l7, List.append_nil]
        skip
      clear hd hn l47 l32 l41 l45 l4 l7 hdb
      generalize strOf (printT q) = P at *
      generalize strOf (dtext q.num.natAbs) = S2 at *
      generalize strOf (dtext q.den) = S3 at *
      obtain ⟨k0, k1, k2⟩ := (C1.out.ext b2).c3
      go_wp2_with fail
      exact hR.out _ _ (Gives.mk (Ext.trans b1 b2) (by rw [HP.out]; rfl))
    · have hnd := decide_eq_false hn
      have HP : Hid (strOf (printT q) = strOf (dtext q.num.natAbs)) := by
        show _ = _
        unfold printT signT
        simp only [if_pos hd, if_neg hn, strOf_app, l45, l41, l47, l32, l4, l7, List.append_nil, List.nil_append]
      clear hd hn l47 l32 l41 l45 l4 l7 hdb
      generalize strOf (printT q) = P at *
      generalize strOf (dtext q.num.natAbs) = S2 at *
      generalize strOf (dtext q.den) = S3 at *
      obtain ⟨k0, k1, k2⟩ := (C1.out.ext b2).c3
      go_wp2_with fail
      exact hR.out _ _ (Gives.mk (Ext.trans b1 b2) (by rw [HP.out]; rfl))
  · have hL1 : 1 < L := hdb.2 hd
    have hdL : decide (1 < L) = true := decide_eq_true hL1
    by_cases hn : q.num < 0
    · have hnd := decide_eq_true hn
      have HP : Hid (strOf (printT q) = ⟨#[45]⟩ ++ (strOf (dtext q.num.natAbs) ++ ⟨#[47]⟩ ++ strOf (dtext q.den))) := by
        show _ = _
        unfold printT signT
        simp only [if_neg hd, if_pos hn, strOf_app, l45, l41, l47, l32, l4, l7, ByteArray.append_assoc]
      clear hd hn l47 l32 l41 l45 l4 l7 hdb
      generalize strOf (printT q) = P at *
      generalize strOf (dtext q.num.natAbs) = S2 at *
      generalize strOf (dtext q.den) = S3 at *
      obtain ⟨k0, k1, k2⟩ := (C1.out.ext b2).c3
      go_wp2_with fail
      clear k0 k1 k2
      refine (HT2.out _ (Ext.trans b1 b2)).mono ?_
      rintro e w3 ⟨_, rfl, b3, rfl⟩
      obtain ⟨k0, k1, k2⟩ := (C1.out.ext (Ext.trans b2 b3)).c3
      go_wp2_with fail
      exact hR.out _ _ (Gives.mk (Ext.trans b1 (Ext.trans b2 b3)) (by rw [HP.out]; rfl))
    · have hnd := decide_eq_false hn
      have HP : Hid (strOf (printT q) = strOf (dtext q.num.natAbs) ++ ⟨#[47]⟩ ++ strOf (dtext q.den)) := by
        show _ = _
        unfold printT signT
        simp only [if_neg hd, if_neg hn, strOf_app, l45, l41, l47, l32, l4, l7, List.nil_append, ByteArray.append_assoc]
      clear hd hn l47 l32 l41 l45 l4 l7 hdb
      generalize strOf (printT q) = P at *
      generalize strOf (dtext q.num.natAbs) = S2 at *
      generalize strOf (dtext q.den) = S3 at *
      obtain ⟨k0, k1, k2⟩ := (C1.out.ext b2).c3
      go_wp2_with fail
      clear k0 k1 k2
      refine (HT2.out _ (Ext.trans b1 b2)).mono ?_
      rintro e w3 ⟨_, rfl, b3, rfl⟩
      obtain ⟨k0, k1, k2⟩ := (C1.out.ext (Ext.trans b2 b3)).c3
      go_wp2_with fail
      exact hR.out _ _ (Gives.mk (Ext.trans b1 (Ext.trans b2 b3)) (by rw [HP.out]; rfl))
set_option maxHeartbeats 1000000 in
set_option linter.unusedSimpArgs false in
theorem r6smt_any {w : World} {v : Value} {q : Rat} (hq : RdP w v q) (hs : Sb 500000 q) :
    Calls Tryd.prog 33 #[v] w (Gives w fun v' _ => v' = .string (strOf (smtT q))) := by
  refine via fun R hR => ?_
  have HQ := Lib.hid hq
  obtain ⟨n, d, rfl, hn, hd⟩ := hq
  obtain ⟨an, cn, rfl, -, -, -, -⟩ := hn.shape
  obtain ⟨ad, cd, rfl, -, -, -, -⟩ := hd.shape
  have HT1 : Hid (∀ w', Ext w w' → Calls Tryd.prog 23 #[.slice an (bitsOf q.num.natAbs).length cn] w' (Gives w' fun v' _ => v' = .string (strOf (dtext q.num.natAbs)))) := fun w' x => r4text_any (hn.ext x) (Nat.le_trans hs.1 (by decide)) (Nat.le_trans (text_longB hs.1 (by decide)) (by decide))
  have HT2 : Hid (∀ w', Ext w w' → Calls Tryd.prog 23 #[.slice ad (bitsOf q.den).length cd] w' (Gives w' fun v' _ => v' = .string (strOf (dtext q.den)))) := fun w' x => r4text_any (hd.ext x) (Nat.le_trans hs.2 (by decide)) (Nat.le_trans (text_longB hs.2 (by decide)) (by decide))
  have h2 : (strOf (dtext q.num.natAbs)).size ≤ 500000 := by rw [strOf_size]; exact text_longB hs.1 (by decide)
  have h3 : (strOf (dtext q.den)).size ≤ 500000 := by rw [strOf_size]; exact text_longB hs.2 (by decide)
  have hdb := den_bits q.den_nz
  obtain ⟨w1, hw1, b1, c1, -, -⟩ := bx1 w [.bool (decide (q.num < 0)), .slice an (bitsOf q.num.natAbs).length cn, .slice ad (bitsOf q.den).length cd] 52
  have HW := Lib.hid hw1
  have C1 := Lib.hid c1
  clear hw1 c1 hs hn hd HQ
  obtain ⟨L, hL⟩ : ∃ L, (bitsOf q.den).length = L := ⟨_, rfl⟩
  rw [hL] at hdb
  rw [hL] at HT2 C1 HW ⊢
  clear hL
  generalize (bitsOf q.num.natAbs).length = L0 at *
  have l47 : strOf [40, 47, 32] = ⟨#[40, 47, 32]⟩ := by unfold strOf; rfl
  have l32 : strOf [32] = ⟨#[32]⟩ := by unfold strOf; rfl
  have l41 : strOf [41] = ⟨#[41]⟩ := by unfold strOf; rfl
  have l45 : strOf [40, 45, 32] = ⟨#[40, 45, 32]⟩ := by unfold strOf; rfl
  have l4 : strOf [45] = ⟨#[45]⟩ := by unfold strOf; rfl
  have l7 : strOf [47] = ⟨#[47]⟩ := by unfold strOf; rfl
  have s47 : (⟨#[40, 47, 32]⟩ : ByteArray).size = 3 := rfl
  have s32 : (⟨#[32]⟩ : ByteArray).size = 1 := rfl
  have s41 : (⟨#[41]⟩ : ByteArray).size = 1 := rfl
  have s45 : (⟨#[40, 45, 32]⟩ : ByteArray).size = 3 := rfl
  have s4 : (⟨#[45]⟩ : ByteArray).size = 1 := rfl
  have s7 : (⟨#[47]⟩ : ByteArray).size = 1 := rfl
  go_enter Tryd.func33, Tryd.ntmps33
  go_upto_region 1 with (fail)
  rw [← HW.out]
  clear HW
  obtain ⟨k0, k1, k2⟩ := C1.out.c3
  go_wp2_with fail
  clear k0 k1 k2
  refine (HT1.out _ b1).mono ?_
  rintro e w2 ⟨_, rfl, b2, rfl⟩
  by_cases hd : q.den = 1
  · have hL1 : ¬ 1 < L := fun h => hdb.1 h hd
    have hdL : decide (1 < L) = false := decide_eq_false hL1
    by_cases hn : q.num < 0
    · have hnd := decide_eq_true hn
      have HP : Hid (strOf (smtT q) = ⟨#[40, 45, 32]⟩ ++ strOf (dtext q.num.natAbs) ++ ⟨#[41]⟩) := by
        show _ = _
        unfold smtT
        simp only [if_pos hd, if_pos hn, strOf_app, l45, l41, l47, l32, l4, l7, List.append_nil]
        skip
      clear hd hn l47 l32 l41 l45 l4 l7 hdb
      generalize strOf (smtT q) = P at *
      generalize strOf (dtext q.num.natAbs) = S2 at *
      generalize strOf (dtext q.den) = S3 at *
      obtain ⟨k0, k1, k2⟩ := (C1.out.ext b2).c3
      go_wp2_with fail
      exact hR.out _ _ (Gives.mk (Ext.trans b1 b2) (by rw [HP.out]; rfl))
    · have hnd := decide_eq_false hn
      have HP : Hid (strOf (smtT q) = strOf (dtext q.num.natAbs)) := by
        show _ = _
        unfold smtT
        simp only [if_pos hd, if_neg hn, strOf_app, l45, l41, l47, l32, l4, l7, List.append_nil, List.nil_append]
      clear hd hn l47 l32 l41 l45 l4 l7 hdb
      generalize strOf (smtT q) = P at *
      generalize strOf (dtext q.num.natAbs) = S2 at *
      generalize strOf (dtext q.den) = S3 at *
      obtain ⟨k0, k1, k2⟩ := (C1.out.ext b2).c3
      go_wp2_with fail
      exact hR.out _ _ (Gives.mk (Ext.trans b1 b2) (by rw [HP.out]; rfl))
  · have hL1 : 1 < L := hdb.2 hd
    have hdL : decide (1 < L) = true := decide_eq_true hL1
    by_cases hn : q.num < 0
    · have hnd := decide_eq_true hn
      have HP : Hid (strOf (smtT q) = ⟨#[40, 45, 32]⟩ ++ (⟨#[40, 47, 32]⟩ ++ strOf (dtext q.num.natAbs) ++ ⟨#[32]⟩ ++ strOf (dtext q.den) ++ ⟨#[41]⟩) ++ ⟨#[41]⟩) := by
        show _ = _
        unfold smtT
        simp only [if_neg hd, if_pos hn, strOf_app, l45, l41, l47, l32, l4, l7, ByteArray.append_assoc]
      clear hd hn l47 l32 l41 l45 l4 l7 hdb
      generalize strOf (smtT q) = P at *
      generalize strOf (dtext q.num.natAbs) = S2 at *
      generalize strOf (dtext q.den) = S3 at *
      obtain ⟨k0, k1, k2⟩ := (C1.out.ext b2).c3
      go_wp2_with fail
      clear k0 k1 k2
      refine (HT2.out _ (Ext.trans b1 b2)).mono ?_
      rintro e w3 ⟨_, rfl, b3, rfl⟩
      obtain ⟨k0, k1, k2⟩ := (C1.out.ext (Ext.trans b2 b3)).c3
      go_wp2_with fail
      exact hR.out _ _ (Gives.mk (Ext.trans b1 (Ext.trans b2 b3)) (by rw [HP.out]; rfl))
    · have hnd := decide_eq_false hn
      have HP : Hid (strOf (smtT q) = ⟨#[40, 47, 32]⟩ ++ strOf (dtext q.num.natAbs) ++ ⟨#[32]⟩ ++ strOf (dtext q.den) ++ ⟨#[41]⟩) := by
        show _ = _
        unfold smtT
        simp only [if_neg hd, if_neg hn, strOf_app, l45, l41, l47, l32, l4, l7, List.nil_append, ByteArray.append_assoc]
      clear hd hn l47 l32 l41 l45 l4 l7 hdb
      generalize strOf (smtT q) = P at *
      generalize strOf (dtext q.num.natAbs) = S2 at *
      generalize strOf (dtext q.den) = S3 at *
      obtain ⟨k0, k1, k2⟩ := (C1.out.ext b2).c3
      go_wp2_with fail
      clear k0 k1 k2
      refine (HT2.out _ (Ext.trans b1 b2)).mono ?_
      rintro e w3 ⟨_, rfl, b3, rfl⟩
      obtain ⟨k0, k1, k2⟩ := (C1.out.ext (Ext.trans b2 b3)).c3
      go_wp2_with fail
      exact hR.out _ _ (Gives.mk (Ext.trans b1 (Ext.trans b2 b3)) (by rw [HP.out]; rfl))
end Go.Proofs.YtgajpmcjjefghaaDoor
