/- rtext.parts, Print, Smt; attestref06.Print, Smt -/
import Derived.Test.YtgajpmcjjefghaaGreatDoorRatAll
import Derived.Test.YtgajpmcjjefghaaGreatDoorPRef4Text
import Derived.Test.YtgajpmcjjefghaaGreatDoorRowT
namespace Go.Proofs.YtgajpmcjjefghaaGreatDoor
open Go.RowKit Go.Att

def signT (q : Rat) : List Nat := if q.num < 0 then [45] else []
def lowT (q : Rat) : List Nat := if q.den = 1 then [] else dtext q.den
def printT (q : Rat) : List Nat := signT q ++ dtext q.num.natAbs ++ (if q.den = 1 then [] else [47] ++ dtext q.den)
def smtT (q : Rat) : List Nat :=
  let s := if q.den = 1 then dtext q.num.natAbs else [40, 47, 32] ++ dtext q.num.natAbs ++ [32] ++ dtext q.den ++ [41]
  if q.num < 0 then [40, 45, 32] ++ s ++ [41] else s
theorem toList_inj6 {s t : ByteArray} (h : s.toList = t.toList) : s = t := by
  rw [ByteArray.toList_eq, ByteArray.toList_eq] at h
  obtain ⟨⟨x⟩⟩ := s
  obtain ⟨⟨y⟩⟩ := t
  simpa using h
theorem text_some (n : Nat) : ((strOf (dtext n)).toList == []) = false := by
  apply Bool.eq_false_iff.2
  intro hb
  have h1 : strOf (dtext n) = ⟨#[]⟩ := toList_inj6 ((eq_of_beq hb).trans (by rw [ByteArray.toList_eq]))
  have h2 := strOf_size (dtext n)
  rw [h1] at h2
  have := dtext_pos n
  have h3 : (⟨#[]⟩ : ByteArray).size = 0 := rfl
  omega
theorem parts6_any {w : World} {v : Value} {q : Rat} (hq : RdQ w v q) (hs : Sz 100000 q) :
    Calls Tryz.prog 57 #[v] w (Gives w fun v' _ => v' = .tuple #[.string (strOf (signT q)), .string (strOf (dtext q.num.natAbs)), .string (strOf (lowT q))]) := by
  refine via fun R hR => ?_
  have HQ := Lib.hid hq
  have HS := Lib.hid hs
  obtain ⟨z, a, l, c, a', l', c', rfl, -⟩ := hq.op
  obtain ⟨w1, hw1, b1, c1, -, -⟩ := bx1 w [.bool z, .slice a l c, .slice a' l' c'] 26
  have HW := Lib.hid hw1
  have C1 := Lib.hid c1
  clear hw1 c1 hs
  go_enter Tryz.func57, Tryz.ntmps57
  go_upto_region 1 with (fail)
  rw [← HW.out]
  clear HW
  obtain ⟨k0, k1, k2⟩ := C1.out.c3
  go_wp2_with fail
  clear k0 k1 k2
  refine (parts_any (HQ.out.ext b1) (by have := HS.out.1; omega) (by have := HS.out.2; omega)).mono ?_
  rintro e w2 ⟨_, rfl, b2, n, d, rfl, on, od⟩
  have ON := Lib.hid on.rd
  have OD := Lib.hid od.rd
  clear on od
  obtain ⟨an, cn, rfl, -, -, -, -⟩ := ON.out.1.shape
  obtain ⟨ad, cd, rfl, -, -, -, -⟩ := OD.out.1.shape
  have HT1 : Hid (∀ w', Ext w2 w' → Calls Tryz.prog 65 #[.slice an (limbs q.num.natAbs).length cn] w' (Gives w' fun v' _ => v' = .string (strOf (dtext q.num.natAbs)))) := fun w' x => by
    have h := text_any (ON.out.ext x) (by have := HS.out.1; omega)
    rwa [nv_limbs] at h
  have HT2 : Hid (∀ w', Ext w2 w' → Calls Tryz.prog 65 #[.slice ad (limbs q.den).length cd] w' (Gives w' fun v' _ => v' = .string (strOf (dtext q.den)))) := fun w' x => by
    have h := text_any (OD.out.ext x) (by have := HS.out.2; omega)
    rwa [nv_limbs] at h
  have C2 := Lib.hid (C1.out.ext b2)
  have HWH : Hid (∀ w', Ext w2 w' → Calls Tryz.prog 76 #[.agg #[.bool z, .slice a l c, .slice a' l' c']] w' (Gives w' fun v' _ => v' = .bool (decide (q.den = 1)))) := fun w' x => whole_any (HQ.out.ext (Ext.trans b1 (Ext.trans b2 x)))
  have FIN : Hid (∀ s t u w', s = strOf (signT q) → t = strOf (dtext q.num.natAbs) → u = strOf (lowT q) → Ext w w' → R (.returned (.tuple #[.string s, .string t, .string u])) w') := fun s t u w' h1 h2 h3 x => hR.out _ _ (Gives.mk x (by rw [h1, h2, h3]))
  unfold signT lowT at FIN
  clear ON OD HS hR
  generalize (limbs q.num.natAbs).length = ln at *
  generalize (limbs q.den).length = ld at *
  generalize strOf (dtext q.num.natAbs) = S at *
  obtain ⟨neg, hneg⟩ : ∃ neg, decide (q.num < 0) = neg := ⟨_, rfl⟩
  obtain ⟨one, hone⟩ : ∃ one, decide (q.den = 1) = one := ⟨_, rfl⟩
  rw [hone] at HWH
  rw [hneg]
  cases neg
  all_goals cases one
  all_goals
    have HN1 := Lib.hid hneg
    have HO1 := Lib.hid hone
    clear hneg hone
    obtain ⟨k0, k1, k2⟩ := C2.out.c3
    go_wp2_with fail
    clear k0 k1 k2
    refine (HWH.out _ (Ext.refl _)).mono ?_
    rintro e w3 ⟨_, rfl, b3, rfl⟩
    go_wp2_with fail
  · refine (HT2.out _ b3).mono ?_
    rintro e w4 ⟨_, rfl, b4, rfl⟩
    go_wp2_with fail
    refine (HT1.out _ (Ext.trans b3 b4)).mono ?_
    rintro e w5 ⟨_, rfl, b5, rfl⟩
    go_wp2_with fail
    refine bodyPost_ret (v := .tuple #[.string ⟨#[]⟩, .string S, .string (strOf (dtext q.den))]) (by simp [results, Tryz.results57, go_sem]) rfl ?_
    exact FIN.out _ _ _ _ (by rw [if_neg (of_decide_eq_false HN1.out), strOf_nil]) rfl (by rw [if_neg (of_decide_eq_false HO1.out)]) (Ext.trans b1 (Ext.trans b2 (Ext.trans b3 (Ext.trans b4 b5))))
  · refine (HT1.out _ b3).mono ?_
    rintro e w4 ⟨_, rfl, b4, rfl⟩
    go_wp2_with fail
    refine bodyPost_ret (v := .tuple #[.string ⟨#[]⟩, .string S, .string ⟨#[]⟩]) (by simp [results, Tryz.results57, go_sem]) rfl ?_
    exact FIN.out _ _ _ _ (by rw [if_neg (of_decide_eq_false HN1.out), strOf_nil]) rfl (by rw [if_pos (of_decide_eq_true HO1.out), strOf_nil]) (Ext.trans b1 (Ext.trans b2 (Ext.trans b3 b4)))
  · refine (HT2.out _ b3).mono ?_
    rintro e w4 ⟨_, rfl, b4, rfl⟩
    go_wp2_with fail
    refine (HT1.out _ (Ext.trans b3 b4)).mono ?_
    rintro e w5 ⟨_, rfl, b5, rfl⟩
    go_wp2_with fail
    refine bodyPost_ret (v := .tuple #[.string ⟨#[45]⟩, .string S, .string (strOf (dtext q.den))]) (by simp [results, Tryz.results57, go_sem]) rfl ?_
    exact FIN.out _ _ _ _ (by rw [if_pos (of_decide_eq_true HN1.out)]; unfold strOf; rfl) rfl (by rw [if_neg (of_decide_eq_false HO1.out)]) (Ext.trans b1 (Ext.trans b2 (Ext.trans b3 (Ext.trans b4 b5))))
  · refine (HT1.out _ b3).mono ?_
    rintro e w4 ⟨_, rfl, b4, rfl⟩
    go_wp2_with fail
    refine bodyPost_ret (v := .tuple #[.string ⟨#[45]⟩, .string S, .string ⟨#[]⟩]) (by simp [results, Tryz.results57, go_sem]) rfl ?_
    exact FIN.out _ _ _ _ (by rw [if_pos (of_decide_eq_true HN1.out)]; unfold strOf; rfl) rfl (by rw [if_pos (of_decide_eq_true HO1.out), strOf_nil]) (Ext.trans b1 (Ext.trans b2 (Ext.trans b3 b4)))
theorem text_long {n k : Nat} (h : (limbs n).length ≤ k) (h0 : 0 < k) : (strOf (dtext n)).size ≤ 10 * k := by
  rw [strOf_size]
  have h1 : W32 ^ k ≤ 10 ^ (10 * k) := by rw [Nat.pow_mul]; exact Nat.pow_le_pow_left (by decide) k
  exact dtext_len_le (Nat.lt_of_lt_of_le ((digs_len W32 (by decide) n k).1 h) h1) (by omega)
theorem sign_long (q : Rat) : (strOf (signT q)).size ≤ 1 := by
  rw [strOf_size]
  unfold signT
  split <;> simp
theorem print6_any {w : World} {v : Value} {q : Rat} (hq : RdQ w v q) (hs : Sz 100000 q) :
    Calls Tryz.prog 30 #[v] w (Gives w fun v' _ => v' = .string (strOf (printT q))) := by
  refine via fun R hR => ?_
  have HQ := Lib.hid hq
  have HS := Lib.hid hs
  obtain ⟨z, a, l, c, a', l', c', rfl, -⟩ := hq.op
  obtain ⟨w1, hw1, b1, c1, -, -⟩ := bx1 w [.bool z, .slice a l c, .slice a' l' c'] 26
  have HW := Lib.hid hw1
  have C1 := Lib.hid c1
  clear hw1 c1 hs
  go_enter Tryz.func30, Tryz.ntmps30
  go_upto_region 1 with (fail)
  rw [← HW.out]
  clear HW
  obtain ⟨k0, k1, k2⟩ := C1.out.c3
  go_wp2_with fail
  clear k0 k1 k2
  refine (parts6_any (HQ.out.ext b1) HS.out).mono ?_
  rintro e w2 ⟨_, rfl, b2, rfl⟩
  have h1 := sign_long q
  have h2 := text_long (n := q.num.natAbs) HS.out.1 (by decide)
  have h3 := text_long (n := q.den) HS.out.2 (by decide)
  unfold lowT
  by_cases hd : q.den = 1
  · rw [if_pos hd, strOf_nil]
    have HP : Hid (strOf (printT q) = strOf (signT q) ++ strOf (dtext q.num.natAbs)) := by
      show _ = _
      unfold printT
      rw [if_pos hd, List.append_nil, strOf_app]
    clear hd h3 HQ HS
    generalize strOf (printT q) = P at *
    generalize strOf (signT q) = S1 at *
    generalize strOf (dtext q.num.natAbs) = S2 at *
    have hc1 : ¬ (S1.size + S2.size > 9223372036854775807) := by omega
    go_wp2_with fail
    exact hR.out _ _ (Gives.mk (Ext.trans b1 b2) (by rw [HP.out]; rfl))
  · rw [if_neg hd]
    have HP : Hid (strOf (printT q) = strOf (signT q) ++ strOf (dtext q.num.natAbs) ++ ⟨#[47]⟩ ++ strOf (dtext q.den)) := by
      show _ = _
      unfold printT
      rw [if_neg hd, strOf_app, strOf_app, strOf_app, ByteArray.append_assoc, ByteArray.append_assoc, ByteArray.append_assoc]
      congr 1
      congr 1
      congr 1
      unfold strOf
      rfl
    have hne := text_some q.den
    clear hd HQ HS
    generalize strOf (printT q) = P at *
    generalize strOf (signT q) = S1 at *
    generalize strOf (dtext q.num.natAbs) = S2 at *
    generalize strOf (dtext q.den) = S3 at *
    have h47 : (⟨#[47]⟩ : ByteArray).size = 1 := rfl
    have hc1 : ¬ (S1.size + S2.size > 9223372036854775807) := by omega
    go_wp2_with fail
    exact hR.out _ _ (Gives.mk (Ext.trans b1 b2) (by rw [HP.out]; rfl))
theorem str_lit {l : List Nat} {b : ByteArray} (h : b.toList = l.map UInt8.ofNat) : strOf l = b := toList_inj6 (by
  rw [h]
  unfold strOf
  rw [ByteArray.toList_eq])
theorem t45 : (⟨#[45]⟩ : ByteArray).toList = [45] := by rw [ByteArray.toList_eq]
theorem smt6_any {w : World} {v : Value} {q : Rat} (hq : RdQ w v q) (hs : Sz 100000 q) :
    Calls Tryz.prog 31 #[v] w (Gives w fun v' _ => v' = .string (strOf (smtT q))) := by
  refine via fun R hR => ?_
  have HQ := Lib.hid hq
  have HS := Lib.hid hs
  obtain ⟨z, a, l, c, a', l', c', rfl, -⟩ := hq.op
  obtain ⟨w1, hw1, b1, c1, -, -⟩ := bx1 w [.bool z, .slice a l c, .slice a' l' c'] 26
  have HW := Lib.hid hw1
  have C1 := Lib.hid c1
  clear hw1 c1 hs
  go_enter Tryz.func31, Tryz.ntmps31
  go_upto_region 1 with (fail)
  rw [← HW.out]
  clear HW
  obtain ⟨k0, k1, k2⟩ := C1.out.c3
  go_wp2_with fail
  clear k0 k1 k2
  refine (parts6_any (HQ.out.ext b1) HS.out).mono ?_
  rintro e w2 ⟨_, rfl, b2, rfl⟩
  have h1 := sign_long q
  have h2 := text_long (n := q.num.natAbs) HS.out.1 (by decide)
  have h3 := text_long (n := q.den) HS.out.2 (by decide)
  clear h1
  have hne := text_some q.den
  have hns : ((⟨#[45]⟩ : ByteArray).toList == []) = false := by rw [t45]; rfl
  have l47 : strOf [40, 47, 32] = ⟨#[40, 47, 32]⟩ := by unfold strOf; rfl
  have l32 : strOf [32] = ⟨#[32]⟩ := by unfold strOf; rfl
  have l41 : strOf [41] = ⟨#[41]⟩ := by unfold strOf; rfl
  have l45 : strOf [40, 45, 32] = ⟨#[40, 45, 32]⟩ := by unfold strOf; rfl
  have s47 : (⟨#[40, 47, 32]⟩ : ByteArray).size = 3 := rfl
  have s32 : (⟨#[32]⟩ : ByteArray).size = 1 := rfl
  have s41 : (⟨#[41]⟩ : ByteArray).size = 1 := rfl
  have s45 : (⟨#[40, 45, 32]⟩ : ByteArray).size = 3 := rfl
  unfold lowT signT
  unfold smtT at hR
  by_cases hd : q.den = 1
  · rw [if_pos hd, strOf_nil]
    rw [if_pos hd] at hR
    by_cases hn : q.num < 0
    · rw [if_pos hn, show strOf [45] = (⟨#[45]⟩ : ByteArray) by unfold strOf; rfl]
      simp only [if_pos hn, strOf_app, l45, l41] at hR
      clear hd hn HQ HS l47 l32 l41 l45
      generalize strOf (dtext q.num.natAbs) = S2 at *
      generalize strOf (dtext q.den) = S3 at *
      go_wp2_with fail
      exact hR.out _ _ (Gives.mk (Ext.trans b1 b2) rfl)
    · rw [if_neg hn, strOf_nil]
      simp only [if_neg hn] at hR
      clear hd hn HQ HS l47 l32 l41 l45
      generalize strOf (dtext q.num.natAbs) = S2 at *
      generalize strOf (dtext q.den) = S3 at *
      go_wp2_with fail
      exact hR.out _ _ (Gives.mk (Ext.trans b1 b2) rfl)
  · rw [if_neg hd]
    rw [if_neg hd] at hR
    by_cases hn : q.num < 0
    · rw [if_pos hn, show strOf [45] = (⟨#[45]⟩ : ByteArray) by unfold strOf; rfl]
      simp only [if_pos hn, strOf_app, l45, l41, l47, l32] at hR
      clear hd hn HQ HS l47 l32 l41 l45
      generalize strOf (dtext q.num.natAbs) = S2 at *
      generalize strOf (dtext q.den) = S3 at *
      go_wp2_with fail
      exact hR.out _ _ (Gives.mk (Ext.trans b1 b2) rfl)
    · rw [if_neg hn, strOf_nil]
      simp only [if_neg hn, strOf_app, l41, l47, l32] at hR
      clear hd hn HQ HS l47 l32 l41 l45
      generalize strOf (dtext q.num.natAbs) = S2 at *
      generalize strOf (dtext q.den) = S3 at *
      go_wp2_with fail
      exact hR.out _ _ (Gives.mk (Ext.trans b1 b2) rfl)
end Go.Proofs.YtgajpmcjjefghaaGreatDoor
