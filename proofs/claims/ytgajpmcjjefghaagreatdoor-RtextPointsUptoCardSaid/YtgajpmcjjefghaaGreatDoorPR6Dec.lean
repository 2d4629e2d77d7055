/- attestref06.Decimal -/
import Derived.Test.YtgajpmcjjefghaaGreatDoorPRtDecP
import Derived.Test.YtgajpmcjjefghaaGreatDoorPRef4Text
namespace Go.Proofs.YtgajpmcjjefghaaGreatDoor
open Go.RowKit Go.Att

theorem r3mul_to {w : World} {va vb : Value} {N : Nat} (n m : Nat) (ha : RdB w va (bitsOf n)) (hb : RdB w vb (bitsOf m)) (hla : (bitsOf n).length ≤ 50000) (hlb : (bitsOf m).length ≤ 50000) (h : n * m = N) :
    Calls Tryz.prog 33 #[va, vb] w (Gives w fun v' w' => OwnB 4 w.heap.size w' v' (bitsOf N)) := h ▸ r3mul_4 n m ha hb hla hlb
theorem pad_step (k : Nat) (D : List Nat) : [48] ++ (List.replicate k 48 ++ D) = List.replicate (k + 1) 48 ++ D := by rw [List.replicate_succ]; rfl
theorem tens_len (m K : Nat) (h : 4 * m + 1 ≤ K) : (bitsOf (10 ^ m)).length ≤ K := (bitsOf_len _ _).2 (Nat.lt_of_lt_of_le (pow10_bits m) (Nat.pow_le_pow_right (by decide) h))
theorem quot_len {n d K : Nat} (h : (bitsOf n).length ≤ K) : (bitsOf (n / d)).length ≤ K := (bitsOf_len _ _).2 (Nat.lt_of_le_of_lt (Nat.div_le_self _ _) ((bitsOf_len _ _).1 h))
theorem dtext_bits {n K : Nat} (h : (bitsOf n).length ≤ K) (h0 : 0 < K) : (dtext n).length ≤ K := dtext_len_le (Nat.lt_of_lt_of_le ((bitsOf_len _ _).1 h) (Nat.pow_le_pow_left (by decide) _)) h0
theorem bits_pos {n : Nat} : 0 < (bitsOf n).length ↔ n ≠ 0 := by rw [bits_len_pos]; omega
set_option linter.unusedSimpArgs false in
set_option maxHeartbeats 4000000 in
set_option maxRecDepth 100000 in
theorem r6dec_any {w : World} {v : Value} {q : Rat} (m : Nat) (hm : m ≤ 1000) (hq : RdP w v q) (hs : Sb 5000 q) :
    Calls Tryz.prog 10 #[v, .int .i64 m] w (Gives w fun v' _ => v' = .string (strOf (decT q m))) := by
  refine via fun R hR => ?_
  have HS := Lib.hid hs
  have HT : Hid ((bitsOf (10 ^ m)).length ≤ 4001) := tens_len m 4001 (by omega)
  obtain ⟨n, d, rfl, hn, hd⟩ := hq
  have HN := Lib.hid hn
  have HD := Lib.hid hd
  have HDN : Hid (q.den ≠ 0) := q.den_nz
  have HQM : Hid ((bitsOf (q.num.natAbs * 10 ^ m)).length ≤ 9001) := bits_mul HS.out.1 HT.out
  have HQD : Hid (q.num.natAbs * 10 ^ m / q.den = decQ q m) := rfl
  have HQL : Hid ((bitsOf (decQ q m)).length ≤ 9001) := quot_len HQM.out
  have HXL : Hid ((dtext (decQ q m)).length ≤ 9001) := dtext_bits HQL.out (by decide)
  obtain ⟨w1, hw1, b1, c1, -, -⟩ := bx1 w [.bool (decide (q.num < 0)), n, d] 29
  have HW := Lib.hid hw1
  have C1 := Lib.hid c1
  clear hw1 c1 hn hd hs
  obtain ⟨an, cn, rfl, -, -, -, -⟩ := HN.out.shape
  obtain ⟨ad, cd, rfl, -, -, -, -⟩ := HD.out.shape
  go_enter Tryz.func10, Tryz.ntmps10
  go_upto_region 1 with (fail)
  rw [← HW.out]
  clear HW
  have b2 := drew_ext w1
  have XE := b2
  refine wp_region_noPanic ?_
  refine wp_region_held_drew (S := fun w' => w'.cell? ⟨w.heap.size, 0, none⟩ = some (.bool (decide (q.num < 0))) ∧ w'.cell? ⟨w.heap.size, 1, none⟩ = some (.slice an (bitsOf q.num.natAbs).length cn) ∧ w'.cell? ⟨w.heap.size, 2, none⟩ = some (.slice ad (bitsOf q.den).length cd)) (by kernel_rfl) ((C1.out.ext XE).c3) (fun hHeld => ?_)
  refine wpAnyH_take (i := 0) (v := ?_) rfl (by kernel_rfl) (by kernel_rfl) (by kernel_rfl) (fun _ _ _ h => h) (Or.inl ⟨by rfl, fun w0 hSw => ?_⟩) hHeld ?_
  rotate_left
  · (try dsimp only at hSw)
    go_simp
    try with_reducible rfl
  simp only [Act.put, List.getElem_toArray, List.getElem_cons_succ, List.getElem_cons_zero, List.setIfInBounds_toArray, List.set_cons_zero, List.set_cons_succ]
  refine wpAnyH_take (i := 1) (v := ?_) rfl (by kernel_rfl) (by kernel_rfl) (by kernel_rfl) (fun _ _ _ h => h) (Or.inl ⟨by rfl, fun w0 hSw => ?_⟩) hHeld ?_
  rotate_left
  · (try dsimp only at hSw)
    go_simp
    try with_reducible rfl
  simp only [Act.put, List.getElem_toArray, List.getElem_cons_succ, List.getElem_cons_zero, List.setIfInBounds_toArray, List.set_cons_zero, List.set_cons_succ]
  refine wpAnyH_take (i := 2) (v := ?_) rfl (by kernel_rfl) (by kernel_rfl) (by kernel_rfl) (fun _ _ _ h => h) (Or.inl ⟨by rfl, fun w0 hSw => ?_⟩) hHeld ?_
  rotate_left
  · (try dsimp only at hSw)
    go_simp
    try with_reducible rfl
  simp only [Act.put, List.getElem_toArray, List.getElem_cons_succ, List.getElem_cons_zero, List.setIfInBounds_toArray, List.set_cons_zero, List.set_cons_succ]
  refine wpAnyH_take (i := 5) (v := ?_) rfl (by kernel_rfl) (by kernel_rfl) (by kernel_rfl) (fun _ _ _ h => h) (Or.inl ⟨by rfl, fun w0 hSw => ?_⟩) hHeld ?_
  rotate_left
  · (try dsimp only at hSw)
    go_simp
    try with_reducible rfl
  simp only [Act.put, List.getElem_toArray, List.getElem_cons_succ, List.getElem_cons_zero, List.setIfInBounds_toArray, List.set_cons_zero, List.set_cons_succ]
  refine wpAnyH_take (i := 6) (v := ?_) rfl (by kernel_rfl) (by kernel_rfl) (by kernel_rfl) (fun _ _ _ h => h) (Or.inl ⟨by rfl, fun w0 hSw => ?_⟩) hHeld ?_
  rotate_left
  · (try dsimp only at hSw)
    go_simp
    try with_reducible rfl
  simp only [Act.put, List.getElem_toArray, List.getElem_cons_succ, List.getElem_cons_zero, List.setIfInBounds_toArray, List.set_cons_zero, List.set_cons_succ]
  refine wpAnyH_ready (rs := [3]) (by kernel_rfl) (by simp) ?_
  refine AllReadyH.cons (o := _) rfl (fun K hK => ?_) AllReadyH.nil
  go_simp
  go_at_call 35; refine (r4tens_any (n := m) (by omega)).mono ?_; rintro e w3 ⟨v3, rfl, b3, o3⟩; have O3 := Lib.hid o3; clear o3; (first | have XE := Ext.trans XE b3 | have XE := Ext.trans (Ext.trans XE (Ext.alloc _ _)) b3)
  go_wp2_with fail
  refine hK.out _ _ ((C1.out.ext XE).c3) (fun hHeld => ?_)
  clear hK K
  try simp only [Act.put, List.getElem_toArray, List.getElem_cons_succ, List.getElem_cons_zero, List.setIfInBounds_toArray, List.set_cons_zero, List.set_cons_succ]
  refine wpAnyH_ready (rs := [4]) (by kernel_rfl) (by simp) ?_
  refine AllReadyH.cons (o := _) rfl (fun K hK => ?_) AllReadyH.nil
  go_simp
  go_at_call 33; refine (r3mul_to q.num.natAbs (10 ^ m) (HN.out.ext (Ext.trans b1 XE)) O3.out.rd (Nat.le_trans HS.out.1 (by decide)) (Nat.le_trans HT.out (by decide)) rfl).mono ?_; rintro e w4 ⟨v4, rfl, b4, o4⟩; have O4 := Lib.hid o4; clear o4; (first | have XE := Ext.trans XE b4 | have XE := Ext.trans (Ext.trans XE (Ext.alloc _ _)) b4)
  go_wp2_with fail
  refine hK.out _ _ ((C1.out.ext XE).c3) (fun hHeld => ?_)
  clear hK K
  try simp only [Act.put, List.getElem_toArray, List.getElem_cons_succ, List.getElem_cons_zero, List.setIfInBounds_toArray, List.set_cons_zero, List.set_cons_succ]
  refine wpAnyH_ready (rs := [7]) (by kernel_rfl) (by simp) ?_
  refine AllReadyH.cons (o := _) rfl (fun K hK => ?_) AllReadyH.nil
  go_simp
  go_at_call 32; refine (r3DivMod_any O4.out.rd (HD.out.ext (Ext.trans b1 XE)) HDN.out (by have := HQM.out; omega) (by have := HS.out.2; omega)).mono ?_; rintro e w5 ⟨_, rfl, b5, q5, r5, rfl, oq5, or5⟩; have OQ5 := Lib.hid oq5; have OR5 := Lib.hid or5; clear oq5 or5; (first | have XE := Ext.trans XE b5 | have XE := Ext.trans (Ext.trans XE (Ext.alloc _ _)) b5)
  go_wp2_with fail
  refine hK.out _ _ ((C1.out.ext XE).c3) (fun hHeld => ?_)
  clear hK K
  try simp only [Act.put, List.getElem_toArray, List.getElem_cons_succ, List.getElem_cons_zero, List.setIfInBounds_toArray, List.set_cons_zero, List.set_cons_succ]
  refine wpAnyH_take (i := 8) (v := ?_) rfl (by kernel_rfl) (by kernel_rfl) (by kernel_rfl) (fun _ _ _ h => h) (Or.inl ⟨by rfl, fun w0 hSw => ?_⟩) hHeld ?_
  rotate_left
  · (try dsimp only at hSw)
    go_simp
    try with_reducible rfl
  simp only [Act.put, List.getElem_toArray, List.getElem_cons_succ, List.getElem_cons_zero, List.setIfInBounds_toArray, List.set_cons_zero, List.set_cons_succ]
  refine wpAnyH_take (i := 9) (v := ?_) rfl (by kernel_rfl) (by kernel_rfl) (by kernel_rfl) (fun _ _ _ h => h) (Or.inl ⟨by rfl, fun w0 hSw => ?_⟩) hHeld ?_
  rotate_left
  · (try dsimp only at hSw)
    go_simp
    try with_reducible rfl
  simp only [Act.put, List.getElem_toArray, List.getElem_cons_succ, List.getElem_cons_zero, List.setIfInBounds_toArray, List.set_cons_zero, List.set_cons_succ]
  refine wpAnyH_take (i := 10) (v := ?_) rfl (by kernel_rfl) (by kernel_rfl) (by kernel_rfl) (fun _ _ _ h => h) (Or.inl ⟨by rfl, fun w0 hSw => ?_⟩) hHeld ?_
  rotate_left
  · (try dsimp only at hSw)
    go_simp
    try with_reducible rfl
  simp only [Act.put, List.getElem_toArray, List.getElem_cons_succ, List.getElem_cons_zero, List.setIfInBounds_toArray, List.set_cons_zero, List.set_cons_succ]
  refine wpAnyH_take (i := 11) (v := ?_) rfl (by kernel_rfl) (by kernel_rfl) (by kernel_rfl) (fun _ _ _ h => h) (Or.inl ⟨by rfl, fun w0 hSw => ?_⟩) hHeld ?_
  rotate_left
  · (try dsimp only at hSw)
    go_simp
    try with_reducible rfl
  simp only [Act.put, List.getElem_toArray, List.getElem_cons_succ, List.getElem_cons_zero, List.setIfInBounds_toArray, List.set_cons_zero, List.set_cons_succ]
  refine wpAnyH_take (i := 12) (v := ?_) rfl (by kernel_rfl) (by kernel_rfl) (by kernel_rfl) (fun _ _ _ h => h) (Or.inl ⟨by rfl, fun w0 hSw => ?_⟩) hHeld ?_
  rotate_left
  · (try dsimp only at hSw)
    go_simp
    try with_reducible rfl
  simp only [Act.put, List.getElem_toArray, List.getElem_cons_succ, List.getElem_cons_zero, List.setIfInBounds_toArray, List.set_cons_zero, List.set_cons_succ]
  refine wpAnyH_done (by kernel_rfl) ?_ _
  refine NoPanic.normal ?_
  have OQ : Hid (RdB w5 q5 (bitsOf (decQ q m))) := by
    have h := OQ5.out.rd
    rw [bval_bitsOf, HQD.out] at h
    exact h
  obtain ⟨aq, cq, rfl, -, -, -, -⟩ := OQ.out.shape
  clear OQ5 OR5 HQD HDN HQM HT
  have HTXT : Hid (Calls Tryz.prog 36 #[.slice aq (bitsOf (decQ q m)).length cq] w5 (Gives w5 fun v' _ => v' = .string (strOf (dtext (decQ q m))))) := r4text_any OQ.out (by have := HQL.out; omega) (by have := HXL.out; omega)
  go_wp2_with fail
  refine HTXT.out.mono ?_
  rintro e w6 ⟨_, rfl, b6, rfl⟩
  have b06 : Ext w w6 := Ext.trans b1 (Ext.trans XE b6)
  have hPl := decP_len (decQ q m) m
  have HPD : Hid (decP (decQ q m) m = List.replicate (m + 1 - (dtext (decQ q m)).length) 48 ++ dtext (decQ q m)) := by
    show _ = _
    unfold decP padded
    rw [Int.toNat_natCast]
  have HTD : Hid (decT q m = (if q.num < 0 ∧ decQ q m ≠ 0 then [45] else []) ++ pointed (decP (decQ q m) m) m) := rfl
  have hql : 0 < (bitsOf (decQ q m)).length ↔ decQ q m ≠ 0 := bits_pos
  have l45 : strOf [45] = ⟨#[45]⟩ := by unfold strOf; rfl
  have l46 : strOf [46] = ⟨#[46]⟩ := by unfold strOf; rfl
  have l48 : strOf [48] = ⟨#[48]⟩ := by unfold strOf; rfl
  have s45 : (⟨#[45]⟩ : ByteArray).size = 1 := rfl
  have s46 : (⟨#[46]⟩ : ByteArray).size = 1 := rfl
  have s48 : (⟨#[48]⟩ : ByteArray).size = 1 := rfl
  have hTXl := HXL.out
  clear HTXT HXL HQL OQ HN HD HS
  generalize decT q m = TT at *
  generalize (bitsOf (decQ q m)).length = ql at *
  generalize decQ q m = Q at *
  generalize dtext Q = DQ at *
  have HC6 := Lib.hid (C1.out.ext (Ext.trans XE b6))
  clear C1
  obtain ⟨neg, hneg⟩ : ∃ neg, decide (q.num < 0) = neg := ⟨_, rfl⟩
  have HNG := Lib.hid hneg
  rw [hneg] at HC6
  rw [hneg]
  clear hneg
  go_wp2_with fail
  go_loopw [7] (fun s wr => ∃ k : Nat, s = .string (strOf (List.replicate k 48 ++ DQ)) ∧ (k = 0 ∨ k + DQ.length ≤ m + 1) ∧ w6 = wr) (fun s _ => m + 2 - strSz s)
  case atStart => exact ⟨0, rfl, .inl rfl, rfl⟩
  case round =>
    obtain ⟨k, rfl, hk, rfl⟩ := hrel
    have hsz : (strOf (List.replicate k 48 ++ DQ)).size = k + DQ.length := by rw [strOf_size, List.length_append, List.length_replicate]
    by_cases hlt : k + DQ.length < m + 1
    · have hltd : decide (((k + DQ.length : Nat) : Int) < (m : Int) + 1) = true := decide_eq_true (by omega)
      have HN2 : Hid (⟨#[48]⟩ ++ strOf (List.replicate k 48 ++ DQ) = strOf (List.replicate (k + 1) 48 ++ DQ)) := by show _ = _; rw [← l48, ← strOf_app, pad_step]
      have hsz2 : (strOf (List.replicate (k + 1) 48 ++ DQ)).size = k + 1 + DQ.length := by rw [strOf_size, List.length_append, List.length_replicate]
      have hn2 := HN2.out
      have hz0 : ¬ (9223372036854775807 < 1 + (k + DQ.length)) := by omega
      generalize strOf (List.replicate k 48 ++ DQ) = S0 at *
      go_wp2_with fail
      go_roundw
      case rel => exact ⟨k + 1, rfl, .inr (by omega), trivial⟩
      case measure =>
        show m + 2 - (strOf (List.replicate (k + 1) 48 ++ DQ)).size < m + 2 - S0.size
        omega
    · have hltd : decide (((k + DQ.length : Nat) : Int) < (m : Int) + 1) = false := decide_eq_false (by omega)
      have hPk : List.replicate k 48 ++ DQ = decP Q m := by
        rw [HPD.out]
        congr 2
        omega
      rw [hPk] at hsz ⊢
      clear HPD hk
      have hk48 := l48
      clear l48 hk48
      generalize decP Q m = P at *
      obtain ⟨PL, hPL⟩ : ∃ PL, P.length = PL := ⟨_, rfl⟩
      have HPL := Lib.hid hPL
      have hsP : (strOf P).size = PL := by rw [strOf_size, hPL]
      rw [hPL] at hPl
      rw [hsP] at hsz
      have hltd2 : decide ((PL : Int) < (m : Int) + 1) = false := decide_eq_false (by omega)
      clear hPL hPk hltd hlt
      clear hsz
      obtain ⟨k0, k1, k2⟩ := HC6.out.c3
      by_cases hm0 : m = 0
      · subst hm0
        have HPO : Hid (strOf (pointed P 0) = strOf P) := rfl
        have HPZ : Hid ((strOf (pointed P 0)).size ≤ 20000) := by
          show (strOf P).size ≤ _
          omega
        cases neg with
        | false =>
          have HE : Hid (strOf TT = strOf (pointed P 0)) := by
            show _ = _
            rw [HTD.out, if_neg fun h => of_decide_eq_false HNG.out h.1, List.nil_append]
          have hPO := HPO.out
          clear l45 hql
          generalize strOf (pointed P 0) = SPO at *
          generalize strOf TT = ST at *
          generalize strOf P = SP at *
          go_wp2_with fail
          exact hR.out _ _ (Gives.mk b06 (by rw [HE.out, HPO.out]; rfl))
        | true =>
          have hzz : ¬ (9223372036854775807 < 1 + (strOf (pointed P 0)).size) := by have := HPZ.out; omega
          by_cases hQ : 0 < ql
          · have hqd := decide_eq_true hQ
            have HE : Hid (strOf TT = ⟨#[45]⟩ ++ strOf (pointed P 0)) := by
              show _ = _
              rw [HTD.out, if_pos ⟨of_decide_eq_true HNG.out, hql.1 hQ⟩, strOf_app, l45]
            have hPO := HPO.out
            clear l45 hql
            generalize strOf (pointed P 0) = SPO at *
            generalize strOf TT = ST at *
            generalize strOf P = SP at *
            go_wp2_with fail
            exact hR.out _ _ (Gives.mk b06 (by rw [HE.out, HPO.out]; rfl))
          · have hqd := decide_eq_false hQ
            have HE : Hid (strOf TT = strOf (pointed P 0)) := by
              show _ = _
              rw [HTD.out, if_neg fun h => hQ (hql.2 h.2), List.nil_append]
            have hPO := HPO.out
            clear l45 hql
            generalize strOf (pointed P 0) = SPO at *
            generalize strOf TT = ST at *
            generalize strOf P = SP at *
            go_wp2_with fail
            exact hR.out _ _ (Gives.mk b06 (by rw [HE.out, HPO.out]; rfl))
      · have hm1 : decide (0 < (m : Int)) = true := decide_eq_true (by omega)
        obtain ⟨c, hc⟩ : ∃ c, PL - m = c := ⟨_, rfl⟩
        have hsub : (PL : Int) - (m : Int) = (c : Int) := by omega
        have hcP : c ≤ PL := by omega
        have hwc : IntKind.i64.wrap (c : Int) = (c : Int) := by rw [IntKind.wrap_i64]; omega
        have hbc : (0 : Int) ≤ (c : Int) ∧ (c : Int) ≤ (PL : Int) := ⟨by omega, by omega⟩
        have htc : ((c : Nat) : Int).toNat = c := Int.toNat_natCast c
        have HPO : Hid (strOf (pointed P m) = (strOf P).extract 0 c ++ ⟨#[46]⟩ ++ (strOf P).extract c PL) := by
          show _ = _
          unfold pointed
          rw [if_neg hm0, HPL.out, hc, strOf_app, strOf_app, l46, strOf_upto6, strOf_from6 P c PL HPL.out.symm]
        obtain ⟨S1, hS1⟩ : ∃ S1, (strOf P).extract 0 c = S1 := ⟨_, rfl⟩
        obtain ⟨S2, hS2⟩ : ∃ S2, (strOf P).extract c PL = S2 := ⟨_, rfl⟩
        have hz1 : S1.size ≤ 10000 := by
          rw [← hS1, strOf_upto6, strOf_size, List.length_take]
          omega
        have hz2 : S2.size ≤ 100000 := by
          rw [← hS2, strOf_from6 P c PL HPL.out.symm, strOf_size, List.length_drop, HPL.out]
          omega
        have hk1 : ¬ (9223372036854775807 < S1.size + 1) := by omega
        have hk2 : ¬ (9223372036854775807 < S1.size + 1 + S2.size) := by omega
        rw [hS1, hS2] at HPO
        have HPZ : Hid ((strOf (pointed P m)).size ≤ 200000) := by
          show _ ≤ _
          rw [HPO.out, ByteArray.size_append, ByteArray.size_append]
          omega
        clear hc l46
        cases neg with
        | false =>
          have HE : Hid (strOf TT = strOf (pointed P m)) := by
            show _ = _
            rw [HTD.out, if_neg fun h => of_decide_eq_false HNG.out h.1, List.nil_append]
          have hPO := HPO.out
          clear l45 hql
          generalize strOf (pointed P m) = SPO at *
          generalize strOf TT = ST at *
          generalize strOf P = SP at *
          go_wp2_with fail
          have b7 := drew_ext w6
          have XE := b7
          refine wp_region_noPanic ?_
          refine wp_region_held_drew (S := fun w' => w'.cell? ⟨w.heap.size, 0, none⟩ = some (.bool false) ∧ w'.cell? ⟨w.heap.size, 1, none⟩ = some (.slice an (bitsOf q.num.natAbs).length cn) ∧ w'.cell? ⟨w.heap.size, 2, none⟩ = some (.slice ad (bitsOf q.den).length cd)) (by kernel_rfl) ((HC6.out.ext XE).c3) (fun hHeld => ?_)
          refine wpAnyH_take (i := 0) (v := ?_) rfl (by kernel_rfl) (by kernel_rfl) (by kernel_rfl) (fun _ _ _ h => h) (Or.inl ⟨by rfl, fun w0 hSw => ?_⟩) hHeld ?_
          rotate_left
          · (try dsimp only at hSw)
            go_simp
            try with_reducible rfl
          simp only [Act.put, List.getElem_toArray, List.getElem_cons_succ, List.getElem_cons_zero, List.setIfInBounds_toArray, List.set_cons_zero, List.set_cons_succ]
          refine wpAnyH_take (i := 1) (v := ?_) rfl (by kernel_rfl) (by kernel_rfl) (by kernel_rfl) (fun _ _ _ h => h) (Or.inl ⟨by rfl, fun w0 hSw => ?_⟩) hHeld ?_
          rotate_left
          · (try dsimp only at hSw)
            go_simp
            try with_reducible rfl
          simp only [Act.put, List.getElem_toArray, List.getElem_cons_succ, List.getElem_cons_zero, List.setIfInBounds_toArray, List.set_cons_zero, List.set_cons_succ]
          refine wpAnyH_take (i := 2) (v := ?_) rfl (by kernel_rfl) (by kernel_rfl) (by kernel_rfl) (fun _ _ _ h => h) (Or.inl ⟨by rfl, fun w0 hSw => ?_⟩) hHeld ?_
          rotate_left
          · (try dsimp only at hSw)
            go_simp
            try with_reducible rfl
          simp only [Act.put, List.getElem_toArray, List.getElem_cons_succ, List.getElem_cons_zero, List.setIfInBounds_toArray, List.set_cons_zero, List.set_cons_succ]
          refine wpAnyH_take (i := 3) (v := ?_) rfl (by kernel_rfl) (by kernel_rfl) (by kernel_rfl) (fun _ _ _ h => h) (Or.inl ⟨by rfl, fun w0 hSw => ?_⟩) hHeld ?_
          rotate_left
          · (try dsimp only at hSw)
            go_simp
            try with_reducible rfl
          simp only [Act.put, List.getElem_toArray, List.getElem_cons_succ, List.getElem_cons_zero, List.setIfInBounds_toArray, List.set_cons_zero, List.set_cons_succ]
          refine wpAnyH_take (i := 4) (v := ?_) rfl (by kernel_rfl) (by kernel_rfl) (by kernel_rfl) (fun _ _ _ h => h) (Or.inl ⟨by rfl, fun w0 hSw => ?_⟩) hHeld ?_
          rotate_left
          · (try dsimp only at hSw)
            go_simp
            try with_reducible rfl
          simp only [Act.put, List.getElem_toArray, List.getElem_cons_succ, List.getElem_cons_zero, List.setIfInBounds_toArray, List.set_cons_zero, List.set_cons_succ]
          refine wpAnyH_take (i := 5) (v := ?_) rfl (by kernel_rfl) (by kernel_rfl) (by kernel_rfl) (fun _ _ _ h => h) (Or.inl ⟨by rfl, fun w0 hSw => ?_⟩) hHeld ?_
          rotate_left
          · (try dsimp only at hSw)
            go_simp
            try with_reducible rfl
          simp only [Act.put, List.getElem_toArray, List.getElem_cons_succ, List.getElem_cons_zero, List.setIfInBounds_toArray, List.set_cons_zero, List.set_cons_succ]
          refine wpAnyH_take (i := 6) (v := ?_) rfl (by kernel_rfl) (by kernel_rfl) (by kernel_rfl) (fun _ _ _ h => h) (Or.inl ⟨by rfl, fun w0 hSw => ?_⟩) hHeld ?_
          rotate_left
          · (try dsimp only at hSw)
            go_simp
            try with_reducible rfl
          simp only [Act.put, List.getElem_toArray, List.getElem_cons_succ, List.getElem_cons_zero, List.setIfInBounds_toArray, List.set_cons_zero, List.set_cons_succ]
          refine wpAnyH_take (i := 7) (v := ?_) rfl (by kernel_rfl) (by kernel_rfl) (by kernel_rfl) (fun _ _ _ h => h) (Or.inl ⟨by rfl, fun w0 hSw => ?_⟩) hHeld ?_
          rotate_left
          · (try dsimp only at hSw)
            go_simp
            try with_reducible rfl
          simp only [Act.put, List.getElem_toArray, List.getElem_cons_succ, List.getElem_cons_zero, List.setIfInBounds_toArray, List.set_cons_zero, List.set_cons_succ]
          refine wpAnyH_take (i := 8) (v := ?_) rfl (by kernel_rfl) (by kernel_rfl) (by kernel_rfl) (fun _ _ _ h => h) (Or.inl ⟨by rfl, fun w0 hSw => ?_⟩) hHeld ?_
          rotate_left
          · (try dsimp only at hSw)
            go_simp
            try with_reducible rfl
          simp only [Act.put, List.getElem_toArray, List.getElem_cons_succ, List.getElem_cons_zero, List.setIfInBounds_toArray, List.set_cons_zero, List.set_cons_succ]
          refine wpAnyH_take (i := 9) (v := ?_) rfl (by kernel_rfl) (by kernel_rfl) (by kernel_rfl) (fun _ _ _ h => h) (Or.inl ⟨by rfl, fun w0 hSw => ?_⟩) hHeld ?_
          rotate_left
          · (try dsimp only at hSw)
            go_simp
            try with_reducible rfl
          simp only [Act.put, List.getElem_toArray, List.getElem_cons_succ, List.getElem_cons_zero, List.setIfInBounds_toArray, List.set_cons_zero, List.set_cons_succ]
          refine wpAnyH_take (i := 10) (v := ?_) rfl (by kernel_rfl) (by kernel_rfl) (by kernel_rfl) (fun _ _ _ h => h) (Or.inl ⟨by rfl, fun w0 hSw => ?_⟩) hHeld ?_
          rotate_left
          · (try dsimp only at hSw)
            go_simp
            try with_reducible rfl
          simp only [Act.put, List.getElem_toArray, List.getElem_cons_succ, List.getElem_cons_zero, List.setIfInBounds_toArray, List.set_cons_zero, List.set_cons_succ]
          refine wpAnyH_take (i := 11) (v := ?_) rfl (by kernel_rfl) (by kernel_rfl) (by kernel_rfl) (fun _ _ _ h => h) (Or.inl ⟨by rfl, fun w0 hSw => ?_⟩) hHeld ?_
          rotate_left
          · (try dsimp only at hSw)
            go_simp
            try with_reducible rfl
          simp only [Act.put, List.getElem_toArray, List.getElem_cons_succ, List.getElem_cons_zero, List.setIfInBounds_toArray, List.set_cons_zero, List.set_cons_succ]
          refine wpAnyH_take (i := 12) (v := ?_) rfl (by kernel_rfl) (by kernel_rfl) (by kernel_rfl) (fun _ _ _ h => h) (Or.inl ⟨by rfl, fun w0 hSw => ?_⟩) hHeld ?_
          rotate_left
          · (try dsimp only at hSw)
            go_simp
            try with_reducible rfl
          simp only [Act.put, List.getElem_toArray, List.getElem_cons_succ, List.getElem_cons_zero, List.setIfInBounds_toArray, List.set_cons_zero, List.set_cons_succ]
          refine wpAnyH_take (i := 13) (v := ?_) rfl (by kernel_rfl) (by kernel_rfl) (by kernel_rfl) (fun _ _ _ h => h) (Or.inl ⟨by rfl, fun w0 hSw => ?_⟩) hHeld ?_
          rotate_left
          · (try dsimp only at hSw)
            go_simp
            try with_reducible rfl
          simp only [Act.put, List.getElem_toArray, List.getElem_cons_succ, List.getElem_cons_zero, List.setIfInBounds_toArray, List.set_cons_zero, List.set_cons_succ]
          refine wpAnyH_take (i := 14) (v := ?_) rfl (by kernel_rfl) (by kernel_rfl) (by kernel_rfl) (fun _ _ _ h => h) (Or.inl ⟨by rfl, fun w0 hSw => ?_⟩) hHeld ?_
          rotate_left
          · (try dsimp only at hSw)
            go_simp
            try with_reducible rfl
          simp only [Act.put, List.getElem_toArray, List.getElem_cons_succ, List.getElem_cons_zero, List.setIfInBounds_toArray, List.set_cons_zero, List.set_cons_succ]
          refine wpAnyH_done (by kernel_rfl) ?_ _
          refine NoPanic.normal ?_
          go_wp2_with fail
          exact hR.out _ _ (Gives.mk (Ext.trans b06 XE) (by rw [HE.out, HPO.out]; rfl))
        | true =>
          have hzz : ¬ (9223372036854775807 < 1 + (strOf (pointed P m)).size) := by have := HPZ.out; omega
          by_cases hQ : 0 < ql
          · have hqd := decide_eq_true hQ
            have HE : Hid (strOf TT = ⟨#[45]⟩ ++ strOf (pointed P m)) := by
              show _ = _
              rw [HTD.out, if_pos ⟨of_decide_eq_true HNG.out, hql.1 hQ⟩, strOf_app, l45]
            have hPO := HPO.out
            clear l45 hql
            generalize strOf (pointed P m) = SPO at *
            generalize strOf TT = ST at *
            generalize strOf P = SP at *
            go_wp2_with fail
            have b7 := drew_ext w6
            have XE := b7
            refine wp_region_noPanic ?_
            refine wp_region_held_drew (S := fun w' => w'.cell? ⟨w.heap.size, 0, none⟩ = some (.bool true) ∧ w'.cell? ⟨w.heap.size, 1, none⟩ = some (.slice an (bitsOf q.num.natAbs).length cn) ∧ w'.cell? ⟨w.heap.size, 2, none⟩ = some (.slice ad (bitsOf q.den).length cd)) (by kernel_rfl) ((HC6.out.ext XE).c3) (fun hHeld => ?_)
            refine wpAnyH_take (i := 0) (v := ?_) rfl (by kernel_rfl) (by kernel_rfl) (by kernel_rfl) (fun _ _ _ h => h) (Or.inl ⟨by rfl, fun w0 hSw => ?_⟩) hHeld ?_
            rotate_left
            · (try dsimp only at hSw)
              go_simp
              try with_reducible rfl
            simp only [Act.put, List.getElem_toArray, List.getElem_cons_succ, List.getElem_cons_zero, List.setIfInBounds_toArray, List.set_cons_zero, List.set_cons_succ]
            refine wpAnyH_take (i := 1) (v := ?_) rfl (by kernel_rfl) (by kernel_rfl) (by kernel_rfl) (fun _ _ _ h => h) (Or.inl ⟨by rfl, fun w0 hSw => ?_⟩) hHeld ?_
            rotate_left
            · (try dsimp only at hSw)
              go_simp
              try with_reducible rfl
            simp only [Act.put, List.getElem_toArray, List.getElem_cons_succ, List.getElem_cons_zero, List.setIfInBounds_toArray, List.set_cons_zero, List.set_cons_succ]
            refine wpAnyH_take (i := 2) (v := ?_) rfl (by kernel_rfl) (by kernel_rfl) (by kernel_rfl) (fun _ _ _ h => h) (Or.inl ⟨by rfl, fun w0 hSw => ?_⟩) hHeld ?_
            rotate_left
            · (try dsimp only at hSw)
              go_simp
              try with_reducible rfl
            simp only [Act.put, List.getElem_toArray, List.getElem_cons_succ, List.getElem_cons_zero, List.setIfInBounds_toArray, List.set_cons_zero, List.set_cons_succ]
            refine wpAnyH_take (i := 3) (v := ?_) rfl (by kernel_rfl) (by kernel_rfl) (by kernel_rfl) (fun _ _ _ h => h) (Or.inl ⟨by rfl, fun w0 hSw => ?_⟩) hHeld ?_
            rotate_left
            · (try dsimp only at hSw)
              go_simp
              try with_reducible rfl
            simp only [Act.put, List.getElem_toArray, List.getElem_cons_succ, List.getElem_cons_zero, List.setIfInBounds_toArray, List.set_cons_zero, List.set_cons_succ]
            refine wpAnyH_take (i := 4) (v := ?_) rfl (by kernel_rfl) (by kernel_rfl) (by kernel_rfl) (fun _ _ _ h => h) (Or.inl ⟨by rfl, fun w0 hSw => ?_⟩) hHeld ?_
            rotate_left
            · (try dsimp only at hSw)
              go_simp
              try with_reducible rfl
            simp only [Act.put, List.getElem_toArray, List.getElem_cons_succ, List.getElem_cons_zero, List.setIfInBounds_toArray, List.set_cons_zero, List.set_cons_succ]
            refine wpAnyH_take (i := 5) (v := ?_) rfl (by kernel_rfl) (by kernel_rfl) (by kernel_rfl) (fun _ _ _ h => h) (Or.inl ⟨by rfl, fun w0 hSw => ?_⟩) hHeld ?_
            rotate_left
            · (try dsimp only at hSw)
              go_simp
              try with_reducible rfl
            simp only [Act.put, List.getElem_toArray, List.getElem_cons_succ, List.getElem_cons_zero, List.setIfInBounds_toArray, List.set_cons_zero, List.set_cons_succ]
            refine wpAnyH_take (i := 6) (v := ?_) rfl (by kernel_rfl) (by kernel_rfl) (by kernel_rfl) (fun _ _ _ h => h) (Or.inl ⟨by rfl, fun w0 hSw => ?_⟩) hHeld ?_
            rotate_left
            · (try dsimp only at hSw)
              go_simp
              try with_reducible rfl
            simp only [Act.put, List.getElem_toArray, List.getElem_cons_succ, List.getElem_cons_zero, List.setIfInBounds_toArray, List.set_cons_zero, List.set_cons_succ]
            refine wpAnyH_take (i := 7) (v := ?_) rfl (by kernel_rfl) (by kernel_rfl) (by kernel_rfl) (fun _ _ _ h => h) (Or.inl ⟨by rfl, fun w0 hSw => ?_⟩) hHeld ?_
            rotate_left
            · (try dsimp only at hSw)
              go_simp
              try with_reducible rfl
            simp only [Act.put, List.getElem_toArray, List.getElem_cons_succ, List.getElem_cons_zero, List.setIfInBounds_toArray, List.set_cons_zero, List.set_cons_succ]
            refine wpAnyH_take (i := 8) (v := ?_) rfl (by kernel_rfl) (by kernel_rfl) (by kernel_rfl) (fun _ _ _ h => h) (Or.inl ⟨by rfl, fun w0 hSw => ?_⟩) hHeld ?_
            rotate_left
            · (try dsimp only at hSw)
              go_simp
              try with_reducible rfl
            simp only [Act.put, List.getElem_toArray, List.getElem_cons_succ, List.getElem_cons_zero, List.setIfInBounds_toArray, List.set_cons_zero, List.set_cons_succ]
            refine wpAnyH_take (i := 9) (v := ?_) rfl (by kernel_rfl) (by kernel_rfl) (by kernel_rfl) (fun _ _ _ h => h) (Or.inl ⟨by rfl, fun w0 hSw => ?_⟩) hHeld ?_
            rotate_left
            · (try dsimp only at hSw)
              go_simp
              try with_reducible rfl
            simp only [Act.put, List.getElem_toArray, List.getElem_cons_succ, List.getElem_cons_zero, List.setIfInBounds_toArray, List.set_cons_zero, List.set_cons_succ]
            refine wpAnyH_take (i := 10) (v := ?_) rfl (by kernel_rfl) (by kernel_rfl) (by kernel_rfl) (fun _ _ _ h => h) (Or.inl ⟨by rfl, fun w0 hSw => ?_⟩) hHeld ?_
            rotate_left
            · (try dsimp only at hSw)
              go_simp
              try with_reducible rfl
            simp only [Act.put, List.getElem_toArray, List.getElem_cons_succ, List.getElem_cons_zero, List.setIfInBounds_toArray, List.set_cons_zero, List.set_cons_succ]
            refine wpAnyH_take (i := 11) (v := ?_) rfl (by kernel_rfl) (by kernel_rfl) (by kernel_rfl) (fun _ _ _ h => h) (Or.inl ⟨by rfl, fun w0 hSw => ?_⟩) hHeld ?_
            rotate_left
            · (try dsimp only at hSw)
              go_simp
              try with_reducible rfl
            simp only [Act.put, List.getElem_toArray, List.getElem_cons_succ, List.getElem_cons_zero, List.setIfInBounds_toArray, List.set_cons_zero, List.set_cons_succ]
            refine wpAnyH_take (i := 12) (v := ?_) rfl (by kernel_rfl) (by kernel_rfl) (by kernel_rfl) (fun _ _ _ h => h) (Or.inl ⟨by rfl, fun w0 hSw => ?_⟩) hHeld ?_
            rotate_left
            · (try dsimp only at hSw)
              go_simp
              try with_reducible rfl
            simp only [Act.put, List.getElem_toArray, List.getElem_cons_succ, List.getElem_cons_zero, List.setIfInBounds_toArray, List.set_cons_zero, List.set_cons_succ]
            refine wpAnyH_take (i := 13) (v := ?_) rfl (by kernel_rfl) (by kernel_rfl) (by kernel_rfl) (fun _ _ _ h => h) (Or.inl ⟨by rfl, fun w0 hSw => ?_⟩) hHeld ?_
            rotate_left
            · (try dsimp only at hSw)
              go_simp
              try with_reducible rfl
            simp only [Act.put, List.getElem_toArray, List.getElem_cons_succ, List.getElem_cons_zero, List.setIfInBounds_toArray, List.set_cons_zero, List.set_cons_succ]
            refine wpAnyH_take (i := 14) (v := ?_) rfl (by kernel_rfl) (by kernel_rfl) (by kernel_rfl) (fun _ _ _ h => h) (Or.inl ⟨by rfl, fun w0 hSw => ?_⟩) hHeld ?_
            rotate_left
            · (try dsimp only at hSw)
              go_simp
              try with_reducible rfl
            simp only [Act.put, List.getElem_toArray, List.getElem_cons_succ, List.getElem_cons_zero, List.setIfInBounds_toArray, List.set_cons_zero, List.set_cons_succ]
            refine wpAnyH_done (by kernel_rfl) ?_ _
            refine NoPanic.normal ?_
            go_wp2_with fail
            exact hR.out _ _ (Gives.mk (Ext.trans b06 XE) (by rw [HE.out, HPO.out]; rfl))
          · have hqd := decide_eq_false hQ
            have HE : Hid (strOf TT = strOf (pointed P m)) := by
              show _ = _
              rw [HTD.out, if_neg fun h => hQ (hql.2 h.2), List.nil_append]
            have hPO := HPO.out
            clear l45 hql
            generalize strOf (pointed P m) = SPO at *
            generalize strOf TT = ST at *
            generalize strOf P = SP at *
            go_wp2_with fail
            have b7 := drew_ext w6
            have XE := b7
            refine wp_region_noPanic ?_
            refine wp_region_held_drew (S := fun w' => w'.cell? ⟨w.heap.size, 0, none⟩ = some (.bool true) ∧ w'.cell? ⟨w.heap.size, 1, none⟩ = some (.slice an (bitsOf q.num.natAbs).length cn) ∧ w'.cell? ⟨w.heap.size, 2, none⟩ = some (.slice ad (bitsOf q.den).length cd)) (by kernel_rfl) ((HC6.out.ext XE).c3) (fun hHeld => ?_)
            refine wpAnyH_take (i := 0) (v := ?_) rfl (by kernel_rfl) (by kernel_rfl) (by kernel_rfl) (fun _ _ _ h => h) (Or.inl ⟨by rfl, fun w0 hSw => ?_⟩) hHeld ?_
            rotate_left
            · (try dsimp only at hSw)
              go_simp
              try with_reducible rfl
            simp only [Act.put, List.getElem_toArray, List.getElem_cons_succ, List.getElem_cons_zero, List.setIfInBounds_toArray, List.set_cons_zero, List.set_cons_succ]
            refine wpAnyH_take (i := 1) (v := ?_) rfl (by kernel_rfl) (by kernel_rfl) (by kernel_rfl) (fun _ _ _ h => h) (Or.inl ⟨by rfl, fun w0 hSw => ?_⟩) hHeld ?_
            rotate_left
            · (try dsimp only at hSw)
              go_simp
              try with_reducible rfl
            simp only [Act.put, List.getElem_toArray, List.getElem_cons_succ, List.getElem_cons_zero, List.setIfInBounds_toArray, List.set_cons_zero, List.set_cons_succ]
            refine wpAnyH_take (i := 2) (v := ?_) rfl (by kernel_rfl) (by kernel_rfl) (by kernel_rfl) (fun _ _ _ h => h) (Or.inl ⟨by rfl, fun w0 hSw => ?_⟩) hHeld ?_
            rotate_left
            · (try dsimp only at hSw)
              go_simp
              try with_reducible rfl
            simp only [Act.put, List.getElem_toArray, List.getElem_cons_succ, List.getElem_cons_zero, List.setIfInBounds_toArray, List.set_cons_zero, List.set_cons_succ]
            refine wpAnyH_take (i := 3) (v := ?_) rfl (by kernel_rfl) (by kernel_rfl) (by kernel_rfl) (fun _ _ _ h => h) (Or.inl ⟨by rfl, fun w0 hSw => ?_⟩) hHeld ?_
            rotate_left
            · (try dsimp only at hSw)
              go_simp
              try with_reducible rfl
            simp only [Act.put, List.getElem_toArray, List.getElem_cons_succ, List.getElem_cons_zero, List.setIfInBounds_toArray, List.set_cons_zero, List.set_cons_succ]
            refine wpAnyH_take (i := 4) (v := ?_) rfl (by kernel_rfl) (by kernel_rfl) (by kernel_rfl) (fun _ _ _ h => h) (Or.inl ⟨by rfl, fun w0 hSw => ?_⟩) hHeld ?_
            rotate_left
            · (try dsimp only at hSw)
              go_simp
              try with_reducible rfl
            simp only [Act.put, List.getElem_toArray, List.getElem_cons_succ, List.getElem_cons_zero, List.setIfInBounds_toArray, List.set_cons_zero, List.set_cons_succ]
            refine wpAnyH_take (i := 5) (v := ?_) rfl (by kernel_rfl) (by kernel_rfl) (by kernel_rfl) (fun _ _ _ h => h) (Or.inl ⟨by rfl, fun w0 hSw => ?_⟩) hHeld ?_
            rotate_left
            · (try dsimp only at hSw)
              go_simp
              try with_reducible rfl
            simp only [Act.put, List.getElem_toArray, List.getElem_cons_succ, List.getElem_cons_zero, List.setIfInBounds_toArray, List.set_cons_zero, List.set_cons_succ]
            refine wpAnyH_take (i := 6) (v := ?_) rfl (by kernel_rfl) (by kernel_rfl) (by kernel_rfl) (fun _ _ _ h => h) (Or.inl ⟨by rfl, fun w0 hSw => ?_⟩) hHeld ?_
            rotate_left
            · (try dsimp only at hSw)
              go_simp
              try with_reducible rfl
            simp only [Act.put, List.getElem_toArray, List.getElem_cons_succ, List.getElem_cons_zero, List.setIfInBounds_toArray, List.set_cons_zero, List.set_cons_succ]
            refine wpAnyH_take (i := 7) (v := ?_) rfl (by kernel_rfl) (by kernel_rfl) (by kernel_rfl) (fun _ _ _ h => h) (Or.inl ⟨by rfl, fun w0 hSw => ?_⟩) hHeld ?_
            rotate_left
            · (try dsimp only at hSw)
              go_simp
              try with_reducible rfl
            simp only [Act.put, List.getElem_toArray, List.getElem_cons_succ, List.getElem_cons_zero, List.setIfInBounds_toArray, List.set_cons_zero, List.set_cons_succ]
            refine wpAnyH_take (i := 8) (v := ?_) rfl (by kernel_rfl) (by kernel_rfl) (by kernel_rfl) (fun _ _ _ h => h) (Or.inl ⟨by rfl, fun w0 hSw => ?_⟩) hHeld ?_
            rotate_left
            · (try dsimp only at hSw)
              go_simp
              try with_reducible rfl
            simp only [Act.put, List.getElem_toArray, List.getElem_cons_succ, List.getElem_cons_zero, List.setIfInBounds_toArray, List.set_cons_zero, List.set_cons_succ]
            refine wpAnyH_take (i := 9) (v := ?_) rfl (by kernel_rfl) (by kernel_rfl) (by kernel_rfl) (fun _ _ _ h => h) (Or.inl ⟨by rfl, fun w0 hSw => ?_⟩) hHeld ?_
            rotate_left
            · (try dsimp only at hSw)
              go_simp
              try with_reducible rfl
            simp only [Act.put, List.getElem_toArray, List.getElem_cons_succ, List.getElem_cons_zero, List.setIfInBounds_toArray, List.set_cons_zero, List.set_cons_succ]
            refine wpAnyH_take (i := 10) (v := ?_) rfl (by kernel_rfl) (by kernel_rfl) (by kernel_rfl) (fun _ _ _ h => h) (Or.inl ⟨by rfl, fun w0 hSw => ?_⟩) hHeld ?_
            rotate_left
            · (try dsimp only at hSw)
              go_simp
              try with_reducible rfl
            simp only [Act.put, List.getElem_toArray, List.getElem_cons_succ, List.getElem_cons_zero, List.setIfInBounds_toArray, List.set_cons_zero, List.set_cons_succ]
            refine wpAnyH_take (i := 11) (v := ?_) rfl (by kernel_rfl) (by kernel_rfl) (by kernel_rfl) (fun _ _ _ h => h) (Or.inl ⟨by rfl, fun w0 hSw => ?_⟩) hHeld ?_
            rotate_left
            · (try dsimp only at hSw)
              go_simp
              try with_reducible rfl
            simp only [Act.put, List.getElem_toArray, List.getElem_cons_succ, List.getElem_cons_zero, List.setIfInBounds_toArray, List.set_cons_zero, List.set_cons_succ]
            refine wpAnyH_take (i := 12) (v := ?_) rfl (by kernel_rfl) (by kernel_rfl) (by kernel_rfl) (fun _ _ _ h => h) (Or.inl ⟨by rfl, fun w0 hSw => ?_⟩) hHeld ?_
            rotate_left
            · (try dsimp only at hSw)
              go_simp
              try with_reducible rfl
            simp only [Act.put, List.getElem_toArray, List.getElem_cons_succ, List.getElem_cons_zero, List.setIfInBounds_toArray, List.set_cons_zero, List.set_cons_succ]
            refine wpAnyH_take (i := 13) (v := ?_) rfl (by kernel_rfl) (by kernel_rfl) (by kernel_rfl) (fun _ _ _ h => h) (Or.inl ⟨by rfl, fun w0 hSw => ?_⟩) hHeld ?_
            rotate_left
            · (try dsimp only at hSw)
              go_simp
              try with_reducible rfl
            simp only [Act.put, List.getElem_toArray, List.getElem_cons_succ, List.getElem_cons_zero, List.setIfInBounds_toArray, List.set_cons_zero, List.set_cons_succ]
            refine wpAnyH_take (i := 14) (v := ?_) rfl (by kernel_rfl) (by kernel_rfl) (by kernel_rfl) (fun _ _ _ h => h) (Or.inl ⟨by rfl, fun w0 hSw => ?_⟩) hHeld ?_
            rotate_left
            · (try dsimp only at hSw)
              go_simp
              try with_reducible rfl
            simp only [Act.put, List.getElem_toArray, List.getElem_cons_succ, List.getElem_cons_zero, List.setIfInBounds_toArray, List.set_cons_zero, List.set_cons_succ]
            refine wpAnyH_done (by kernel_rfl) ?_ _
            refine NoPanic.normal ?_
            go_wp2_with fail
            exact hR.out _ _ (Gives.mk (Ext.trans b06 XE) (by rw [HE.out, HPO.out]; rfl))
end Go.Proofs.YtgajpmcjjefghaaGreatDoor
