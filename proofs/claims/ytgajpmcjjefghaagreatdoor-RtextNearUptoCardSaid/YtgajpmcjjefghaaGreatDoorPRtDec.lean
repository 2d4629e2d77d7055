/- rtext.Decimal -/
import Derived.Test.YtgajpmcjjefghaaGreatDoorPRtext
import Derived.Test.YtgajpmcjjefghaaGreatDoorPTens
import Derived.Test.YtgajpmcjjefghaaGreatDoorNatAll
import Derived.Laws.DeepStrings4
namespace Go.Proofs.YtgajpmcjjefghaaGreatDoor
open Go.RowKit Go.Att

/-- The size times ten to the n, cut off. -/
def decQ (q : Rat) (n : Nat) : Nat := q.num.natAbs * 10 ^ n / q.den
def decP (Q n : Nat) : List Nat := padded ((n + 1 : Nat) : Int) (dtext Q)
def pointed (P : List Nat) (n : Nat) : List Nat := if n = 0 then P else P.take (P.length - n) ++ [46] ++ P.drop (P.length - n)
def decT (q : Rat) (n : Nat) : List Nat := (if q.num < 0 ∧ decQ q n ≠ 0 then [45] else []) ++ pointed (decP (decQ q n) n) n
theorem decP_len (Q n : Nat) : n + 1 ≤ (decP Q n).length ∧ (decP Q n).length ≤ n + 1 + (dtext Q).length := by
  unfold decP padded
  rw [List.length_append, List.length_replicate, Int.toNat_natCast]
  omega
theorem decP_fit (Q n : Nat) : Fit 256 (decP Q n) := fun x hx => by
  unfold decP padded at hx
  rcases List.mem_append.1 hx with h | h
  · rw [List.eq_of_mem_replicate h]; decide
  · exact dtext_fit _ x h
theorem limbs_ten (n : Nat) : (limbs (10 ^ n)).length ≤ n / 8 + 1 := by
  refine (digs_len W32 (by decide) _ _).2 (Nat.lt_of_lt_of_le (Nat.pow_lt_pow_right (by decide) (show n < 8 * (n / 8 + 1) by omega)) ?_)
  rw [Nat.pow_mul]
  exact Nat.pow_le_pow_left (by decide) _
theorem limbs_mulle {a b A B : Nat} (ha : (limbs a).length ≤ A) (hb : (limbs b).length ≤ B) : (limbs (a * b)).length ≤ A + B := by
  refine (digs_len W32 (by decide) _ _).2 ?_
  rw [Nat.pow_add]
  exact Nat.mul_lt_mul'' ((digs_len W32 (by decide) _ _).1 ha) ((digs_len W32 (by decide) _ _).1 hb)
theorem limbs_divle {a d A : Nat} (ha : (limbs a).length ≤ A) : (limbs (a / d)).length ≤ A :=
  (digs_len W32 (by decide) _ _).2 (Nat.lt_of_le_of_lt (Nat.div_le_self a d) ((digs_len W32 (by decide) _ _).1 ha))
theorem strOf_from6 (xs : List Nat) (c n : Nat) (hn : n = xs.length) : (strOf xs).extract c n = strOf (xs.drop c) := by
  subst hn
  unfold strOf
  apply ByteArray.ext
  simp [ByteArray.data_extract]
  exact List.take_of_length_le (by simp)
theorem strOf_upto6 (xs : List Nat) (n : Nat) : (strOf xs).extract 0 n = strOf (xs.take n) := by
  unfold strOf
  apply ByteArray.ext
  simp [ByteArray.data_extract]
theorem dec_neg {w : World} {v : Value} {q : Rat} {n : Int} (hq : RdQ w v q) (h : n < 0) :
    Calls Tryz.prog 13 #[v, .int .i64 n] w (Gives w fun v' _ => v' = .tuple #[.string ⟨#[]⟩, .int .i64 1]) := by
  refine via fun R hR => ?_
  have hd := decide_eq_true h
  obtain ⟨z, a, l, c, a', l', c', rfl, -⟩ := hq.op
  go_enter Tryz.func13, Tryz.ntmps13
  go_wp2_with fail
  exact hR.out _ _ (Gives.mk (Ext.alloc _ _) rfl)
theorem dec_big {w : World} {v : Value} {q : Rat} {n : Int} (hq : RdQ w v q) (h : 1000 < n) :
    Calls Tryz.prog 13 #[v, .int .i64 n] w (Gives w fun v' _ => v' = .tuple #[.string ⟨#[]⟩, .int .i64 2]) := by
  refine via fun R hR => ?_
  have hd := decide_eq_true h
  have hd0 : decide (n < 0) = false := decide_eq_false (by omega)
  obtain ⟨z, a, l, c, a', l', c', rfl, -⟩ := hq.op
  go_enter Tryz.func13, Tryz.ntmps13
  go_wp2_with fail
  exact hR.out _ _ (Gives.mk (Ext.alloc _ _) rfl)
set_option linter.unusedSimpArgs false in
set_option maxHeartbeats 4000000 in
theorem dec_any {w : World} {v : Value} {q : Rat} (m : Nat) (hm : m ≤ 1000) (hq : RdQ w v q) (hs : Sz 8 q) :
    Calls Tryz.prog 13 #[v, .int .i64 m] w (Gives w fun v' _ => v' = .tuple #[.string (strOf (decT q m)), .int .i64 0]) := by
  refine via fun R hR => ?_
  have HQ := Lib.hid hq
  have HS := Lib.hid hs
  obtain ⟨z, a, l, c, a', l', c', rfl, -⟩ := hq.op
  have hd0 : decide ((m : Int) < 0) = false := decide_eq_false (by omega)
  have hd1 : decide (1000 < (m : Int)) = false := decide_eq_false (by omega)
  obtain ⟨w1, hw1, b1, c1, -, -⟩ := bx1 w [.bool z, .slice a l c, .slice a' l' c'] 26
  have HW := Lib.hid hw1
  have C1 := Lib.hid c1
  clear hw1 c1 hs
  go_enter Tryz.func13, Tryz.ntmps13
  go_upto_region 1 with (fail)
  rw [← HW.out]
  clear HW
  obtain ⟨k0, k1, k2⟩ := C1.out.c3
  go_wp2_with fail
  clear k0 k1 k2
  refine (parts_any (HQ.out.ext b1) (by have := HS.out.1; omega) (by have := HS.out.2; omega)).mono ?_
  rintro e w2 ⟨_, rfl, b2, vn, vd, rfl, on, od⟩
  have ON := Lib.hid on.rd
  have OD := Lib.hid od.rd
  clear on od
  go_wp2_with fail
  refine (tens_ok (n := m) (by omega)).mono ?_
  rintro e w3 ⟨_, rfl, b3, vt, rfl, ot⟩
  have OT := Lib.hid ot.rd
  clear ot
  have HLT : Hid ((limbs (10 ^ m)).length ≤ 126) := by show _ ≤ _; have := limbs_ten m; omega
  go_wp2_with fail
  refine (mul_any (ON.out.ext b3) OT.out (by have := HS.out.1; omega) (by have := HLT.out; omega)).mono ?_
  rintro e w4 ⟨vm, rfl, b4, om⟩
  rw [nv_limbs, nv_limbs] at om
  have OM := Lib.hid om.rd
  clear om
  have HLM : Hid ((limbs (q.num.natAbs * 10 ^ m)).length ≤ 134) := limbs_mulle HS.out.1 HLT.out
  go_wp2_with fail
  refine (divmod_any OM.out (OD.out.ext (Ext.trans b3 b4)) (by have := HLM.out; omega) (by have := HS.out.2; omega) (by rw [nv_limbs]; exact q.den_nz)).mono ?_
  rintro e w5 ⟨_, rfl, b5, vq, vr, rfl, oq, orr⟩
  rw [nv_limbs, nv_limbs] at oq
  have OQ : Hid (RdL w5 vq (limbs (decQ q m))) := oq.rd
  have HLQ : Hid ((limbs (decQ q m)).length ≤ 134) := limbs_divle HLM.out
  obtain ⟨aq, cq, rfl, -, -, -, -⟩ := OQ.out.1.shape
  clear oq orr
  have HTX : Hid ((dtext (decQ q m)).length ≤ 1340) := by
    have := text_long (n := decQ q m) HLQ.out (by decide)
    rwa [strOf_size] at this
  have HPD : Hid (∀ w v, RdL w v (limbs (decQ q m)) → Calls Tryz.prog 42 #[v, .int .i64 ((m : Int) + 1)] w (Gives w fun v' _ => v' = .tuple #[.string (strOf (decP (decQ q m) m)), .int .i64 0])) := fun w v h => by
    have h2 := pad_any (n := ((m + 1 : Nat) : Int)) (by omega) (by omega) h (by have := HLQ.out; omega)
    rwa [nv_limbs] at h2
  go_wp2_with fail
  refine (HPD.out _ _ OQ.out).mono ?_
  rintro e w6 ⟨_, rfl, b6, rfl⟩
  have hPl := decP_len (decQ q m) m
  have HTD : Hid (decT q m = (if q.num < 0 ∧ decQ q m ≠ 0 then [45] else []) ++ pointed (decP (decQ q m) m) m) := rfl
  have hql : 0 < (limbs (decQ q m)).length ↔ decQ q m ≠ 0 := by
    rw [limbs_len_pos]
    omega
  have l45 : strOf [45] = ⟨#[45]⟩ := by unfold strOf; rfl
  have l46 : strOf [46] = ⟨#[46]⟩ := by unfold strOf; rfl
  have s45 : (⟨#[45]⟩ : ByteArray).size = 1 := rfl
  have s46 : (⟨#[46]⟩ : ByteArray).size = 1 := rfl
  have hTXl := HTX.out
  generalize decT q m = TT at *
  clear HPD HLQ HTX HLM HLT OQ OM OT ON OD HS HQ C1
  generalize (limbs (decQ q m)).length = ql at *
  generalize decQ q m = Q at *
  generalize dtext Q = DQ at *
  generalize decP Q m = P at *
  have hsz := strOf_size P
  obtain ⟨PL, hPL⟩ : ∃ PL, P.length = PL := ⟨_, rfl⟩
  have HPL := Lib.hid hPL
  rw [hPL] at hsz hPl
  clear hPL
  obtain ⟨neg, hneg⟩ : ∃ neg, decide (q.num < 0) = neg := ⟨_, rfl⟩
  have HNG := Lib.hid hneg
  rw [hneg]
  clear hneg
  by_cases hm0 : m = 0
  · subst hm0
    have HPO : Hid (pointed P 0 = P) := rfl
    cases neg with
    | false =>
      have HE : Hid (strOf TT = strOf P) := by
        show _ = _
        rw [HTD.out, HPO.out, if_neg fun h => of_decide_eq_false HNG.out h.1, List.nil_append]
      generalize strOf TT = ST at *
      generalize strOf P = SP at *
      go_wp2_with fail
      exact hR.out _ _ (Gives.mk (Ext.trans b1 (Ext.trans b2 (Ext.trans b3 (Ext.trans b4 (Ext.trans b5 b6))))) (by rw [HE.out]; rfl))
    | true =>
      by_cases hQ : 0 < ql
      · have hqd := decide_eq_true hQ
        have HE : Hid (strOf TT = ⟨#[45]⟩ ++ strOf P) := by
          show _ = _
          rw [HTD.out, HPO.out, if_pos ⟨of_decide_eq_true HNG.out, hql.1 hQ⟩, strOf_app, l45]
        clear l45 l46 hql
        generalize strOf TT = ST at *
        generalize strOf P = SP at *
        go_wp2_with fail
        exact hR.out _ _ (Gives.mk (Ext.trans b1 (Ext.trans b2 (Ext.trans b3 (Ext.trans b4 (Ext.trans b5 b6))))) (by rw [HE.out]; rfl))
      · have hqd := decide_eq_false hQ
        have HE : Hid (strOf TT = strOf P) := by
          show _ = _
          rw [HTD.out, HPO.out, if_neg fun h => hQ (hql.2 h.2), List.nil_append]
        clear l45 l46 hql
        generalize strOf TT = ST at *
        generalize strOf P = SP at *
        go_wp2_with fail
        exact hR.out _ _ (Gives.mk (Ext.trans b1 (Ext.trans b2 (Ext.trans b3 (Ext.trans b4 (Ext.trans b5 b6))))) (by rw [HE.out]; rfl))
  · have hm1 : decide (0 < (m : Int)) = true := decide_eq_true (by omega)
    have hlt : (m : Int) < (PL : Int) := by omega
    have hltd := decide_eq_true hlt
    obtain ⟨c, hc⟩ : ∃ c, PL - m = c := ⟨_, rfl⟩
    have hsub : (PL : Int) - (m : Int) = (c : Int) := by omega
    have hcP : c ≤ PL := by omega
    have hwc : IntKind.i64.wrap (c : Int) = (c : Int) := by rw [IntKind.wrap_i64]; omega
    have hbc : (0 : Int) ≤ (c : Int) ∧ (c : Int) ≤ (PL : Int) := ⟨by omega, by omega⟩
    have htc : ((c : Nat) : Int).toNat = c := Int.toNat_natCast c
    have HPO : Hid (strOf (pointed P m) = (strOf P).extract 0 c ++ ⟨#[46]⟩ ++ (strOf P).extract c PL) := by
      show _ = _
      unfold pointed
      rw [if_neg hm0, HPL.out, hc, strOf_app, strOf_app, l46, strOf_upto6, strOf_from6 P c PL HPL.out.symm]
    obtain ⟨S1, hS1⟩ : ∃ S1, (strOf P).extract 0 c = S1 := ⟨_, rfl⟩
    obtain ⟨S2, hS2⟩ : ∃ S2, (strOf P).extract c PL = S2 := ⟨_, rfl⟩
    have hz1 : S1.size ≤ 100000 := by
      rw [← hS1, strOf_upto6, strOf_size, List.length_take]
      omega
    have hz2 : S2.size ≤ 100000 := by
      rw [← hS2, strOf_from6 P c PL HPL.out.symm, strOf_size, List.length_drop, HPL.out]
      omega
    have hk1 : ¬ (9223372036854775807 < S1.size + 1) := by omega
    have hk2 : ¬ (9223372036854775807 < S1.size + 1 + S2.size) := by omega
    rw [hS1, hS2] at HPO
    clear hc
    cases neg with
    | false =>
      have HE : Hid (strOf TT = strOf (pointed P m)) := by
        show _ = _
        rw [HTD.out, if_neg fun h => of_decide_eq_false HNG.out h.1, List.nil_append]
      clear l45 l46 hql
      generalize strOf (pointed P m) = SPO at *
      generalize strOf TT = ST at *
      generalize strOf P = SP at *
      go_wp2_with fail
      have b7 := drew_ext w6
      have XE := b7
      refine wp_region_noPanic ?_
      refine wp_region_held_drew (S := fun w' => True) (by kernel_rfl) (trivial) (fun hHeld => ?_)
      refine wpAnyH_take (i := 0) (v := ?_) rfl (by kernel_rfl) (by kernel_rfl) (by kernel_rfl) (fun _ _ _ h => h) (Or.inl ⟨by rfl, fun w0 hSw => ?_⟩) hHeld ?_
      rotate_left
      · (try dsimp only at hSw)
        go_simp
        try with_reducible rfl
      simp only [Act.put, List.getElem_toArray, List.getElem_cons_succ, List.getElem_cons_zero, List.setIfInBounds_toArray, List.set_cons_zero, List.set_cons_succ]
      refine wpAnyH_take (i := 1) (v := ?_) rfl (by kernel_rfl) (by kernel_rfl) (by kernel_rfl) (fun _ _ _ h => h) (Or.inl ⟨by rfl, fun w0 hSw => ?_⟩) hHeld ?_
      rotate_left
      · (try dsimp only at hSw)
        go_simp
        try with_reducible rfl
      simp only [Act.put, List.getElem_toArray, List.getElem_cons_succ, List.getElem_cons_zero, List.setIfInBounds_toArray, List.set_cons_zero, List.set_cons_succ]
      refine wpAnyH_take (i := 2) (v := ?_) rfl (by kernel_rfl) (by kernel_rfl) (by kernel_rfl) (fun _ _ _ h => h) (Or.inl ⟨by rfl, fun w0 hSw => ?_⟩) hHeld ?_
      rotate_left
      · (try dsimp only at hSw)
        go_simp
        try with_reducible rfl
      simp only [Act.put, List.getElem_toArray, List.getElem_cons_succ, List.getElem_cons_zero, List.setIfInBounds_toArray, List.set_cons_zero, List.set_cons_succ]
      refine wpAnyH_take (i := 3) (v := ?_) rfl (by kernel_rfl) (by kernel_rfl) (by kernel_rfl) (fun _ _ _ h => h) (Or.inl ⟨by rfl, fun w0 hSw => ?_⟩) hHeld ?_
      rotate_left
      · (try dsimp only at hSw)
        go_simp
        try with_reducible rfl
      simp only [Act.put, List.getElem_toArray, List.getElem_cons_succ, List.getElem_cons_zero, List.setIfInBounds_toArray, List.set_cons_zero, List.set_cons_succ]
      refine wpAnyH_take (i := 4) (v := ?_) rfl (by kernel_rfl) (by kernel_rfl) (by kernel_rfl) (fun _ _ _ h => h) (Or.inl ⟨by rfl, fun w0 hSw => ?_⟩) hHeld ?_
      rotate_left
      · (try dsimp only at hSw)
        go_simp
        try with_reducible rfl
      simp only [Act.put, List.getElem_toArray, List.getElem_cons_succ, List.getElem_cons_zero, List.setIfInBounds_toArray, List.set_cons_zero, List.set_cons_succ]
      refine wpAnyH_take (i := 5) (v := ?_) rfl (by kernel_rfl) (by kernel_rfl) (by kernel_rfl) (fun _ _ _ h => h) (Or.inl ⟨by rfl, fun w0 hSw => ?_⟩) hHeld ?_
      rotate_left
      · (try dsimp only at hSw)
        go_simp
        try with_reducible rfl
      simp only [Act.put, List.getElem_toArray, List.getElem_cons_succ, List.getElem_cons_zero, List.setIfInBounds_toArray, List.set_cons_zero, List.set_cons_succ]
      refine wpAnyH_take (i := 6) (v := ?_) rfl (by kernel_rfl) (by kernel_rfl) (by kernel_rfl) (fun _ _ _ h => h) (Or.inl ⟨by rfl, fun w0 hSw => ?_⟩) hHeld ?_
      rotate_left
      · (try dsimp only at hSw)
        go_simp
        try with_reducible rfl
      simp only [Act.put, List.getElem_toArray, List.getElem_cons_succ, List.getElem_cons_zero, List.setIfInBounds_toArray, List.set_cons_zero, List.set_cons_succ]
      refine wpAnyH_take (i := 7) (v := ?_) rfl (by kernel_rfl) (by kernel_rfl) (by kernel_rfl) (fun _ _ _ h => h) (Or.inl ⟨by rfl, fun w0 hSw => ?_⟩) hHeld ?_
      rotate_left
      · (try dsimp only at hSw)
        go_simp
        try with_reducible rfl
      simp only [Act.put, List.getElem_toArray, List.getElem_cons_succ, List.getElem_cons_zero, List.setIfInBounds_toArray, List.set_cons_zero, List.set_cons_succ]
      refine wpAnyH_take (i := 8) (v := ?_) rfl (by kernel_rfl) (by kernel_rfl) (by kernel_rfl) (fun _ _ _ h => h) (Or.inl ⟨by rfl, fun w0 hSw => ?_⟩) hHeld ?_
      rotate_left
      · (try dsimp only at hSw)
        go_simp
        try with_reducible rfl
      simp only [Act.put, List.getElem_toArray, List.getElem_cons_succ, List.getElem_cons_zero, List.setIfInBounds_toArray, List.set_cons_zero, List.set_cons_succ]
      refine wpAnyH_take (i := 9) (v := ?_) rfl (by kernel_rfl) (by kernel_rfl) (by kernel_rfl) (fun _ _ _ h => h) (Or.inl ⟨by rfl, fun w0 hSw => ?_⟩) hHeld ?_
      rotate_left
      · (try dsimp only at hSw)
        go_simp
        try with_reducible rfl
      simp only [Act.put, List.getElem_toArray, List.getElem_cons_succ, List.getElem_cons_zero, List.setIfInBounds_toArray, List.set_cons_zero, List.set_cons_succ]
      refine wpAnyH_take (i := 10) (v := ?_) rfl (by kernel_rfl) (by kernel_rfl) (by kernel_rfl) (fun _ _ _ h => h) (Or.inl ⟨by rfl, fun w0 hSw => ?_⟩) hHeld ?_
      rotate_left
      · (try dsimp only at hSw)
        go_simp
        try with_reducible rfl
      simp only [Act.put, List.getElem_toArray, List.getElem_cons_succ, List.getElem_cons_zero, List.setIfInBounds_toArray, List.set_cons_zero, List.set_cons_succ]
      refine wpAnyH_take (i := 11) (v := ?_) rfl (by kernel_rfl) (by kernel_rfl) (by kernel_rfl) (fun _ _ _ h => h) (Or.inl ⟨by rfl, fun w0 hSw => ?_⟩) hHeld ?_
      rotate_left
      · (try dsimp only at hSw)
        go_simp
        try with_reducible rfl
      simp only [Act.put, List.getElem_toArray, List.getElem_cons_succ, List.getElem_cons_zero, List.setIfInBounds_toArray, List.set_cons_zero, List.set_cons_succ]
      refine wpAnyH_take (i := 12) (v := ?_) rfl (by kernel_rfl) (by kernel_rfl) (by kernel_rfl) (fun _ _ _ h => h) (Or.inl ⟨by rfl, fun w0 hSw => ?_⟩) hHeld ?_
      rotate_left
      · (try dsimp only at hSw)
        go_simp
        try with_reducible rfl
      simp only [Act.put, List.getElem_toArray, List.getElem_cons_succ, List.getElem_cons_zero, List.setIfInBounds_toArray, List.set_cons_zero, List.set_cons_succ]
      refine wpAnyH_take (i := 13) (v := ?_) rfl (by kernel_rfl) (by kernel_rfl) (by kernel_rfl) (fun _ _ _ h => h) (Or.inl ⟨by rfl, fun w0 hSw => ?_⟩) hHeld ?_
      rotate_left
      · (try dsimp only at hSw)
        go_simp
        try with_reducible rfl
      simp only [Act.put, List.getElem_toArray, List.getElem_cons_succ, List.getElem_cons_zero, List.setIfInBounds_toArray, List.set_cons_zero, List.set_cons_succ]
      refine wpAnyH_take (i := 14) (v := ?_) rfl (by kernel_rfl) (by kernel_rfl) (by kernel_rfl) (fun _ _ _ h => h) (Or.inl ⟨by rfl, fun w0 hSw => ?_⟩) hHeld ?_
      rotate_left
      · (try dsimp only at hSw)
        go_simp
        try with_reducible rfl
      simp only [Act.put, List.getElem_toArray, List.getElem_cons_succ, List.getElem_cons_zero, List.setIfInBounds_toArray, List.set_cons_zero, List.set_cons_succ]
      refine wpAnyH_done (by kernel_rfl) ?_ _
      refine NoPanic.normal ?_
      go_wp2_with fail
      exact hR.out _ _ (Gives.mk (Ext.trans b1 (Ext.trans b2 (Ext.trans b3 (Ext.trans b4 (Ext.trans b5 (Ext.trans b6 b7)))))) (by rw [HE.out, HPO.out]; rfl))
    | true =>
      by_cases hQ : 0 < ql
      · have hqd := decide_eq_true hQ
        have HE : Hid (strOf TT = ⟨#[45]⟩ ++ strOf (pointed P m)) := by
          show _ = _
          rw [HTD.out, if_pos ⟨of_decide_eq_true HNG.out, hql.1 hQ⟩, strOf_app, l45]
        clear l45 l46 hql
        generalize strOf (pointed P m) = SPO at *
        generalize strOf TT = ST at *
        generalize strOf P = SP at *
        go_wp2_with fail
        have b7 := drew_ext w6
        have XE := b7
        refine wp_region_noPanic ?_
        refine wp_region_held_drew (S := fun w' => True) (by kernel_rfl) (trivial) (fun hHeld => ?_)
        refine wpAnyH_take (i := 0) (v := ?_) rfl (by kernel_rfl) (by kernel_rfl) (by kernel_rfl) (fun _ _ _ h => h) (Or.inl ⟨by rfl, fun w0 hSw => ?_⟩) hHeld ?_
        rotate_left
        · (try dsimp only at hSw)
          go_simp
          try with_reducible rfl
        simp only [Act.put, List.getElem_toArray, List.getElem_cons_succ, List.getElem_cons_zero, List.setIfInBounds_toArray, List.set_cons_zero, List.set_cons_succ]
        refine wpAnyH_take (i := 1) (v := ?_) rfl (by kernel_rfl) (by kernel_rfl) (by kernel_rfl) (fun _ _ _ h => h) (Or.inl ⟨by rfl, fun w0 hSw => ?_⟩) hHeld ?_
        rotate_left
        · (try dsimp only at hSw)
          go_simp
          try with_reducible rfl
        simp only [Act.put, List.getElem_toArray, List.getElem_cons_succ, List.getElem_cons_zero, List.setIfInBounds_toArray, List.set_cons_zero, List.set_cons_succ]
        refine wpAnyH_take (i := 2) (v := ?_) rfl (by kernel_rfl) (by kernel_rfl) (by kernel_rfl) (fun _ _ _ h => h) (Or.inl ⟨by rfl, fun w0 hSw => ?_⟩) hHeld ?_
        rotate_left
        · (try dsimp only at hSw)
          go_simp
          try with_reducible rfl
        simp only [Act.put, List.getElem_toArray, List.getElem_cons_succ, List.getElem_cons_zero, List.setIfInBounds_toArray, List.set_cons_zero, List.set_cons_succ]
        refine wpAnyH_take (i := 3) (v := ?_) rfl (by kernel_rfl) (by kernel_rfl) (by kernel_rfl) (fun _ _ _ h => h) (Or.inl ⟨by rfl, fun w0 hSw => ?_⟩) hHeld ?_
        rotate_left
        · (try dsimp only at hSw)
          go_simp
          try with_reducible rfl
        simp only [Act.put, List.getElem_toArray, List.getElem_cons_succ, List.getElem_cons_zero, List.setIfInBounds_toArray, List.set_cons_zero, List.set_cons_succ]
        refine wpAnyH_take (i := 4) (v := ?_) rfl (by kernel_rfl) (by kernel_rfl) (by kernel_rfl) (fun _ _ _ h => h) (Or.inl ⟨by rfl, fun w0 hSw => ?_⟩) hHeld ?_
        rotate_left
        · (try dsimp only at hSw)
          go_simp
          try with_reducible rfl
        simp only [Act.put, List.getElem_toArray, List.getElem_cons_succ, List.getElem_cons_zero, List.setIfInBounds_toArray, List.set_cons_zero, List.set_cons_succ]
        refine wpAnyH_take (i := 5) (v := ?_) rfl (by kernel_rfl) (by kernel_rfl) (by kernel_rfl) (fun _ _ _ h => h) (Or.inl ⟨by rfl, fun w0 hSw => ?_⟩) hHeld ?_
        rotate_left
        · (try dsimp only at hSw)
          go_simp
          try with_reducible rfl
        simp only [Act.put, List.getElem_toArray, List.getElem_cons_succ, List.getElem_cons_zero, List.setIfInBounds_toArray, List.set_cons_zero, List.set_cons_succ]
        refine wpAnyH_take (i := 6) (v := ?_) rfl (by kernel_rfl) (by kernel_rfl) (by kernel_rfl) (fun _ _ _ h => h) (Or.inl ⟨by rfl, fun w0 hSw => ?_⟩) hHeld ?_
        rotate_left
        · (try dsimp only at hSw)
          go_simp
          try with_reducible rfl
        simp only [Act.put, List.getElem_toArray, List.getElem_cons_succ, List.getElem_cons_zero, List.setIfInBounds_toArray, List.set_cons_zero, List.set_cons_succ]
        refine wpAnyH_take (i := 7) (v := ?_) rfl (by kernel_rfl) (by kernel_rfl) (by kernel_rfl) (fun _ _ _ h => h) (Or.inl ⟨by rfl, fun w0 hSw => ?_⟩) hHeld ?_
        rotate_left
        · (try dsimp only at hSw)
          go_simp
          try with_reducible rfl
        simp only [Act.put, List.getElem_toArray, List.getElem_cons_succ, List.getElem_cons_zero, List.setIfInBounds_toArray, List.set_cons_zero, List.set_cons_succ]
        refine wpAnyH_take (i := 8) (v := ?_) rfl (by kernel_rfl) (by kernel_rfl) (by kernel_rfl) (fun _ _ _ h => h) (Or.inl ⟨by rfl, fun w0 hSw => ?_⟩) hHeld ?_
        rotate_left
        · (try dsimp only at hSw)
          go_simp
          try with_reducible rfl
        simp only [Act.put, List.getElem_toArray, List.getElem_cons_succ, List.getElem_cons_zero, List.setIfInBounds_toArray, List.set_cons_zero, List.set_cons_succ]
        refine wpAnyH_take (i := 9) (v := ?_) rfl (by kernel_rfl) (by kernel_rfl) (by kernel_rfl) (fun _ _ _ h => h) (Or.inl ⟨by rfl, fun w0 hSw => ?_⟩) hHeld ?_
        rotate_left
        · (try dsimp only at hSw)
          go_simp
          try with_reducible rfl
        simp only [Act.put, List.getElem_toArray, List.getElem_cons_succ, List.getElem_cons_zero, List.setIfInBounds_toArray, List.set_cons_zero, List.set_cons_succ]
        refine wpAnyH_take (i := 10) (v := ?_) rfl (by kernel_rfl) (by kernel_rfl) (by kernel_rfl) (fun _ _ _ h => h) (Or.inl ⟨by rfl, fun w0 hSw => ?_⟩) hHeld ?_
        rotate_left
        · (try dsimp only at hSw)
          go_simp
          try with_reducible rfl
        simp only [Act.put, List.getElem_toArray, List.getElem_cons_succ, List.getElem_cons_zero, List.setIfInBounds_toArray, List.set_cons_zero, List.set_cons_succ]
        refine wpAnyH_take (i := 11) (v := ?_) rfl (by kernel_rfl) (by kernel_rfl) (by kernel_rfl) (fun _ _ _ h => h) (Or.inl ⟨by rfl, fun w0 hSw => ?_⟩) hHeld ?_
        rotate_left
        · (try dsimp only at hSw)
          go_simp
          try with_reducible rfl
        simp only [Act.put, List.getElem_toArray, List.getElem_cons_succ, List.getElem_cons_zero, List.setIfInBounds_toArray, List.set_cons_zero, List.set_cons_succ]
        refine wpAnyH_take (i := 12) (v := ?_) rfl (by kernel_rfl) (by kernel_rfl) (by kernel_rfl) (fun _ _ _ h => h) (Or.inl ⟨by rfl, fun w0 hSw => ?_⟩) hHeld ?_
        rotate_left
        · (try dsimp only at hSw)
          go_simp
          try with_reducible rfl
        simp only [Act.put, List.getElem_toArray, List.getElem_cons_succ, List.getElem_cons_zero, List.setIfInBounds_toArray, List.set_cons_zero, List.set_cons_succ]
        refine wpAnyH_take (i := 13) (v := ?_) rfl (by kernel_rfl) (by kernel_rfl) (by kernel_rfl) (fun _ _ _ h => h) (Or.inl ⟨by rfl, fun w0 hSw => ?_⟩) hHeld ?_
        rotate_left
        · (try dsimp only at hSw)
          go_simp
          try with_reducible rfl
        simp only [Act.put, List.getElem_toArray, List.getElem_cons_succ, List.getElem_cons_zero, List.setIfInBounds_toArray, List.set_cons_zero, List.set_cons_succ]
        refine wpAnyH_take (i := 14) (v := ?_) rfl (by kernel_rfl) (by kernel_rfl) (by kernel_rfl) (fun _ _ _ h => h) (Or.inl ⟨by rfl, fun w0 hSw => ?_⟩) hHeld ?_
        rotate_left
        · (try dsimp only at hSw)
          go_simp
          try with_reducible rfl
        simp only [Act.put, List.getElem_toArray, List.getElem_cons_succ, List.getElem_cons_zero, List.setIfInBounds_toArray, List.set_cons_zero, List.set_cons_succ]
        refine wpAnyH_done (by kernel_rfl) ?_ _
        refine NoPanic.normal ?_
        go_wp2_with fail
        exact hR.out _ _ (Gives.mk (Ext.trans b1 (Ext.trans b2 (Ext.trans b3 (Ext.trans b4 (Ext.trans b5 (Ext.trans b6 b7)))))) (by rw [HE.out, HPO.out]; rfl))
      · have hqd := decide_eq_false hQ
        have HE : Hid (strOf TT = strOf (pointed P m)) := by
          show _ = _
          rw [HTD.out, if_neg fun h => hQ (hql.2 h.2), List.nil_append]
        clear l45 l46 hql
        generalize strOf (pointed P m) = SPO at *
        generalize strOf TT = ST at *
        generalize strOf P = SP at *
        go_wp2_with fail
        have b7 := drew_ext w6
        have XE := b7
        refine wp_region_noPanic ?_
        refine wp_region_held_drew (S := fun w' => True) (by kernel_rfl) (trivial) (fun hHeld => ?_)
        refine wpAnyH_take (i := 0) (v := ?_) rfl (by kernel_rfl) (by kernel_rfl) (by kernel_rfl) (fun _ _ _ h => h) (Or.inl ⟨by rfl, fun w0 hSw => ?_⟩) hHeld ?_
        rotate_left
        · (try dsimp only at hSw)
          go_simp
          try with_reducible rfl
        simp only [Act.put, List.getElem_toArray, List.getElem_cons_succ, List.getElem_cons_zero, List.setIfInBounds_toArray, List.set_cons_zero, List.set_cons_succ]
        refine wpAnyH_take (i := 1) (v := ?_) rfl (by kernel_rfl) (by kernel_rfl) (by kernel_rfl) (fun _ _ _ h => h) (Or.inl ⟨by rfl, fun w0 hSw => ?_⟩) hHeld ?_
        rotate_left
        · (try dsimp only at hSw)
          go_simp
          try with_reducible rfl
        simp only [Act.put, List.getElem_toArray, List.getElem_cons_succ, List.getElem_cons_zero, List.setIfInBounds_toArray, List.set_cons_zero, List.set_cons_succ]
        refine wpAnyH_take (i := 2) (v := ?_) rfl (by kernel_rfl) (by kernel_rfl) (by kernel_rfl) (fun _ _ _ h => h) (Or.inl ⟨by rfl, fun w0 hSw => ?_⟩) hHeld ?_
        rotate_left
        · (try dsimp only at hSw)
          go_simp
          try with_reducible rfl
        simp only [Act.put, List.getElem_toArray, List.getElem_cons_succ, List.getElem_cons_zero, List.setIfInBounds_toArray, List.set_cons_zero, List.set_cons_succ]
        refine wpAnyH_take (i := 3) (v := ?_) rfl (by kernel_rfl) (by kernel_rfl) (by kernel_rfl) (fun _ _ _ h => h) (Or.inl ⟨by rfl, fun w0 hSw => ?_⟩) hHeld ?_
        rotate_left
        · (try dsimp only at hSw)
          go_simp
          try with_reducible rfl
        simp only [Act.put, List.getElem_toArray, List.getElem_cons_succ, List.getElem_cons_zero, List.setIfInBounds_toArray, List.set_cons_zero, List.set_cons_succ]
        refine wpAnyH_take (i := 4) (v := ?_) rfl (by kernel_rfl) (by kernel_rfl) (by kernel_rfl) (fun _ _ _ h => h) (Or.inl ⟨by rfl, fun w0 hSw => ?_⟩) hHeld ?_
        rotate_left
        · (try dsimp only at hSw)
          go_simp
          try with_reducible rfl
        simp only [Act.put, List.getElem_toArray, List.getElem_cons_succ, List.getElem_cons_zero, List.setIfInBounds_toArray, List.set_cons_zero, List.set_cons_succ]
        refine wpAnyH_take (i := 5) (v := ?_) rfl (by kernel_rfl) (by kernel_rfl) (by kernel_rfl) (fun _ _ _ h => h) (Or.inl ⟨by rfl, fun w0 hSw => ?_⟩) hHeld ?_
        rotate_left
        · (try dsimp only at hSw)
          go_simp
          try with_reducible rfl
        simp only [Act.put, List.getElem_toArray, List.getElem_cons_succ, List.getElem_cons_zero, List.setIfInBounds_toArray, List.set_cons_zero, List.set_cons_succ]
        refine wpAnyH_take (i := 6) (v := ?_) rfl (by kernel_rfl) (by kernel_rfl) (by kernel_rfl) (fun _ _ _ h => h) (Or.inl ⟨by rfl, fun w0 hSw => ?_⟩) hHeld ?_
        rotate_left
        · (try dsimp only at hSw)
          go_simp
          try with_reducible rfl
        simp only [Act.put, List.getElem_toArray, List.getElem_cons_succ, List.getElem_cons_zero, List.setIfInBounds_toArray, List.set_cons_zero, List.set_cons_succ]
        refine wpAnyH_take (i := 7) (v := ?_) rfl (by kernel_rfl) (by kernel_rfl) (by kernel_rfl) (fun _ _ _ h => h) (Or.inl ⟨by rfl, fun w0 hSw => ?_⟩) hHeld ?_
        rotate_left
        · (try dsimp only at hSw)
          go_simp
          try with_reducible rfl
        simp only [Act.put, List.getElem_toArray, List.getElem_cons_succ, List.getElem_cons_zero, List.setIfInBounds_toArray, List.set_cons_zero, List.set_cons_succ]
        refine wpAnyH_take (i := 8) (v := ?_) rfl (by kernel_rfl) (by kernel_rfl) (by kernel_rfl) (fun _ _ _ h => h) (Or.inl ⟨by rfl, fun w0 hSw => ?_⟩) hHeld ?_
        rotate_left
        · (try dsimp only at hSw)
          go_simp
          try with_reducible rfl
        simp only [Act.put, List.getElem_toArray, List.getElem_cons_succ, List.getElem_cons_zero, List.setIfInBounds_toArray, List.set_cons_zero, List.set_cons_succ]
        refine wpAnyH_take (i := 9) (v := ?_) rfl (by kernel_rfl) (by kernel_rfl) (by kernel_rfl) (fun _ _ _ h => h) (Or.inl ⟨by rfl, fun w0 hSw => ?_⟩) hHeld ?_
        rotate_left
        · (try dsimp only at hSw)
          go_simp
          try with_reducible rfl
        simp only [Act.put, List.getElem_toArray, List.getElem_cons_succ, List.getElem_cons_zero, List.setIfInBounds_toArray, List.set_cons_zero, List.set_cons_succ]
        refine wpAnyH_take (i := 10) (v := ?_) rfl (by kernel_rfl) (by kernel_rfl) (by kernel_rfl) (fun _ _ _ h => h) (Or.inl ⟨by rfl, fun w0 hSw => ?_⟩) hHeld ?_
        rotate_left
        · (try dsimp only at hSw)
          go_simp
          try with_reducible rfl
        simp only [Act.put, List.getElem_toArray, List.getElem_cons_succ, List.getElem_cons_zero, List.setIfInBounds_toArray, List.set_cons_zero, List.set_cons_succ]
        refine wpAnyH_take (i := 11) (v := ?_) rfl (by kernel_rfl) (by kernel_rfl) (by kernel_rfl) (fun _ _ _ h => h) (Or.inl ⟨by rfl, fun w0 hSw => ?_⟩) hHeld ?_
        rotate_left
        · (try dsimp only at hSw)
          go_simp
          try with_reducible rfl
        simp only [Act.put, List.getElem_toArray, List.getElem_cons_succ, List.getElem_cons_zero, List.setIfInBounds_toArray, List.set_cons_zero, List.set_cons_succ]
        refine wpAnyH_take (i := 12) (v := ?_) rfl (by kernel_rfl) (by kernel_rfl) (by kernel_rfl) (fun _ _ _ h => h) (Or.inl ⟨by rfl, fun w0 hSw => ?_⟩) hHeld ?_
        rotate_left
        · (try dsimp only at hSw)
          go_simp
          try with_reducible rfl
        simp only [Act.put, List.getElem_toArray, List.getElem_cons_succ, List.getElem_cons_zero, List.setIfInBounds_toArray, List.set_cons_zero, List.set_cons_succ]
        refine wpAnyH_take (i := 13) (v := ?_) rfl (by kernel_rfl) (by kernel_rfl) (by kernel_rfl) (fun _ _ _ h => h) (Or.inl ⟨by rfl, fun w0 hSw => ?_⟩) hHeld ?_
        rotate_left
        · (try dsimp only at hSw)
          go_simp
          try with_reducible rfl
        simp only [Act.put, List.getElem_toArray, List.getElem_cons_succ, List.getElem_cons_zero, List.setIfInBounds_toArray, List.set_cons_zero, List.set_cons_succ]
        refine wpAnyH_take (i := 14) (v := ?_) rfl (by kernel_rfl) (by kernel_rfl) (by kernel_rfl) (fun _ _ _ h => h) (Or.inl ⟨by rfl, fun w0 hSw => ?_⟩) hHeld ?_
        rotate_left
        · (try dsimp only at hSw)
          go_simp
          try with_reducible rfl
        simp only [Act.put, List.getElem_toArray, List.getElem_cons_succ, List.getElem_cons_zero, List.setIfInBounds_toArray, List.set_cons_zero, List.set_cons_succ]
        refine wpAnyH_done (by kernel_rfl) ?_ _
        refine NoPanic.normal ?_
        go_wp2_with fail
        exact hR.out _ _ (Gives.mk (Ext.trans b1 (Ext.trans b2 (Ext.trans b3 (Ext.trans b4 (Ext.trans b5 (Ext.trans b6 b7)))))) (by rw [HE.out, HPO.out]; rfl))
end Go.Proofs.YtgajpmcjjefghaaGreatDoor
