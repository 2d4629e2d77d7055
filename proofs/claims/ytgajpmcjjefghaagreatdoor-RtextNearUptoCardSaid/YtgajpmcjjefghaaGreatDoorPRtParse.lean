/- rtext.Parse -/
import Derived.Test.YtgajpmcjjefghaaGreatDoorCut
import Derived.Test.YtgajpmcjjefghaaGreatDoorPTens
import Derived.Test.YtgajpmcjjefghaaGreatDoorRatAll
import Derived.Test.YtgajpmcjjefghaaGreatDoorLimbAll
import Derived.Test.YtgajpmcjjefghaaGreatDoorBq
namespace Go.Proofs.YtgajpmcjjefghaaGreatDoor
open Go.RowKit Go.Att

def dig (x : Nat) : Bool := decide (48 ≤ x) && decide (x ≤ 57)
theorem dig_iff {x : Nat} : dig x = true ↔ 48 ≤ x ∧ x ≤ 57 := by unfold dig; simp
/-- A text of digits, not empty. -/
def goodB (L : List Nat) : Bool := !L.isEmpty && L.all dig
theorem goodB_iff {L : List Nat} : goodB L = true ↔ 0 < L.length ∧ Digs L := by
  unfold goodB Digs
  rw [Bool.and_eq_true, List.all_eq_true]
  constructor
  · rintro ⟨h1, h2⟩
    exact ⟨by cases L with | nil => simp at h1 | cons x r => simp, fun x hx => dig_iff.1 (h2 x hx)⟩
  · rintro ⟨h1, h2⟩
    exact ⟨by cases L with | nil => simp at h1 | cons x r => simp, fun x hx => dig_iff.2 (h2 x hx)⟩
/-- The first that is no digit. -/
theorem bad_first {L : List Nat} (h : goodB L = false) (h0 : 0 < L.length) : ∃ m, m < L.length ∧ (∀ k, k < m → 48 ≤ nth L k ∧ nth L k ≤ 57) ∧ ¬ (48 ≤ nth L m ∧ nth L m ≤ 57) := by
  have hm : L.findIdx (fun x => !dig x) < L.length := by
    rw [List.findIdx_lt_length]
    refine Classical.byContradiction fun hn => ?_
    have h2 : goodB L = true := goodB_iff.2 ⟨h0, fun x hx => dig_iff.1 (by
      cases hd : dig x with
      | true => rfl
      | false => exact absurd ⟨x, hx, by rw [hd]; rfl⟩ hn)⟩
    rw [h] at h2
    exact absurd h2 (by decide)
  refine ⟨_, hm, fun k hk => ?_, ?_⟩
  · have h3 := List.not_of_lt_findIdx hk
    have hkl : k < L.length := Nat.lt_trans hk hm
    rw [nth_lt _ _ hkl]
    exact dig_iff.1 (by simpa using h3)
  · have h3 := List.findIdx_getElem (w := hm)
    rw [nth_lt _ _ hm]
    intro h4
    rw [dig_iff.2 h4] at h3
    exact absurd h3 (by decide)
theorem bsOf_strOf {L : List Nat} (h : Fit 256 L) : bsOf (strOf L) = L := by
  unfold bsOf strOf
  simp only [List.map_map]
  refine List.map_congr_left (g := id) (fun x hx => ?_) |>.trans (List.map_id L)
  have := h x hx
  simp
  omega
theorem digs_fit {L : List Nat} (h : Digs L) : Fit 256 L := fun x hx => by have := h x hx; omega
theorem dparse_yes {w : World} {L : List Nat} (h : goodB L = true) (hl : L.length ≤ 20000) :
    Calls Tryz.prog 39 #[.string (strOf L)] w (Gives w fun v' w' => ∃ v, v' = .tuple #[v, .int .i64 0] ∧ OwnL 57 w.heap.size w' v (limbs (numOf L))) := by
  obtain ⟨h0, hd⟩ := goodB_iff.1 h
  have hb : bsOf (strOf L) = L := bsOf_strOf (digs_fit hd)
  have h := parse_ok (w := w) (s := strOf L) (fun k hk => by
    rw [hb]
    rw [strOf_size] at hk
    rw [nth_lt _ _ hk]
    exact hd _ (List.getElem_mem hk)) (by rw [strOf_size]; exact h0) (by rw [strOf_size]; exact hl)
  rw [hb] at h
  exact h
theorem dparse_no {w : World} {L : List Nat} (hf : Fit 256 L) (h : goodB L = false) (hl : L.length ≤ 20000) :
    Calls Tryz.prog 39 #[.string (strOf L)] w (Gives w fun v' _ => v' = .tuple #[.slice none 0 0, .int .i64 3]) := by
  by_cases h0 : L.length = 0
  · exact parse_none (by rw [strOf_size]; exact h0)
  · obtain ⟨m, hm, h1, h2⟩ := bad_first h (by omega)
    have hb : bsOf (strOf L) = L := bsOf_strOf hf
    exact parse_bad (s := strOf L) (m := m) (by rw [strOf_size]; exact hm) (by rw [hb]; exact h1) (by rw [hb]; exact h2) (by rw [strOf_size]; exact hl)
/-- The number of a text. -/
def frac (neg : Bool) (X : List Nat) (d : Nat) : Option Rat := if goodB X = true then if d = 0 then none else some (mkQ neg (numOf X) d) else none
def readT (L : List Nat) : Option Rat :=
  if pos 47 (stripN L).2 < (stripN L).2.length then
    if goodB ((stripN L).2.drop (pos 47 (stripN L).2 + 1)) = true then frac (stripN L).1 ((stripN L).2.take (pos 47 (stripN L).2)) (numOf ((stripN L).2.drop (pos 47 (stripN L).2 + 1))) else none
  else if pos 46 (stripN L).2 < (stripN L).2.length then
    if (stripN L).2.take (pos 46 (stripN L).2) = [] ∨ (stripN L).2.drop (pos 46 (stripN L).2 + 1) = [] then none
    else frac (stripN L).1 ((stripN L).2.take (pos 46 (stripN L).2) ++ (stripN L).2.drop (pos 46 (stripN L).2 + 1)) (10 ^ ((stripN L).2.drop (pos 46 (stripN L).2 + 1)).length)
  else frac (stripN L).1 (stripN L).2 1
/-- What the program answers. -/
def RtR (w : World) (v : Value) : Option Rat → Prop
  | some q => ∃ o, v = .tuple #[o, .int .i64 0] ∧ OwnQ 57 0 w o q
  | none => v = .tuple #[.agg #[.bool false, .slice none 0 0, .slice none 0 0], .int .i64 3]
theorem Fit.drop {B : Nat} {L : List Nat} (h : Fit B L) (n : Nat) : Fit B (L.drop n) := fun x hx => h x (List.mem_of_mem_drop hx)
theorem Fit.append {B : Nat} {L M : List Nat} (h : Fit B L) (k : Fit B M) : Fit B (L ++ M) := fun x hx => by
  rcases List.mem_append.1 hx with h1 | h1
  · exact h x h1
  · exact k x h1
theorem limbs_of_pow {n k K : Nat} (h : n < 10 ^ k) (hk : k ≤ K) : (limbs n).length ≤ K :=
  (digs_len W32 (by decide) n K).2 (Nat.lt_of_lt_of_le h (Nat.le_trans (Nat.pow_le_pow_left (by decide) k) (Nat.pow_le_pow_right (by decide) hk)))
theorem str_some {L : List Nat} (h : L ≠ []) : ((strOf L).toList == []) = false := by
  apply Bool.eq_false_iff.2
  intro hb
  have h1 : strOf L = ⟨#[]⟩ := toList_inj6 ((eq_of_beq hb).trans (by rw [ByteArray.toList_eq]))
  have h2 := strOf_size L
  rw [h1] at h2
  have h3 : (⟨#[]⟩ : ByteArray).size = 0 := rfl
  exact h (List.eq_nil_of_length_eq_zero (by omega))
set_option maxHeartbeats 4000000 in
set_option maxRecDepth 100000 in
theorem rtparse_any {w : World} {L : List Nat} (hf : Fit 256 L) (hl : L.length ≤ 20000) (hm : ∃ m, w.cell? ⟨0, 0, none⟩ = some (.int .i64 m)) :
    Calls Tryz.prog 11 #[.string (strOf L)] w (Gives w fun v' w' => RtR w' v' (readT L)) := by
  refine via fun R hR => ?_
  have HM : Hid (∀ w', Ext w w' → ∃ m, w'.cell? ⟨0, 0, none⟩ = some (.int .i64 m)) := fun w' x => by
    obtain ⟨m, hm⟩ := hm
    exact ⟨m, x.cell hm⟩
  have HTP : Hid (∀ w, Calls Tryz.prog 37 #[.string (strOf L), .string ⟨#[45]⟩] w (Gives w fun v' _ => v' = .string (strOf (stripN L).2))) := fun w => trim45_any hf
  have HTF := Lib.hid (stripN_fit hf)
  have HTL : Hid ((stripN L).2.length ≤ 20000) := by show _ ≤ _; rw [stripN_len]; omega
  have hneg : decide ((stripN L).2.length < L.length) = (stripN L).1 := by
    rw [stripN_len]
    cases h : (stripN L).1 with
    | false => simp
    | true =>
      have : 0 < L.length := by
        cases L with
        | nil => exact absurd h (by decide)
        | cons x r => simp
      simp
      omega
  obtain ⟨rt, hrt⟩ : ∃ rt, rt = readT L := ⟨_, rfl⟩
  rw [← hrt] at hR
  unfold readT at hrt
  have HRD := Lib.hid hrt
  clear hrt
  have hsz := strOf_size L
  obtain ⟨w1, hw1, b1, -, r1, -⟩ := bx1 w [.bool false, .slice none 0 0, .slice none 0 0] 26
  have HW := Lib.hid hw1
  have R1 : Hid (Rt w1 w.heap.size 3 26) := by show Rt _ _ _ _; rw [hw1]; exact Rt.new w [_, _, _] _
  clear hw1 r1 hm hf
  have hsT := strOf_size (stripN L).2
  generalize (stripN L).2 = T at *
  generalize (stripN L).1 = neg at *
  generalize L.length = ll at *
  generalize strOf L = S at *
  go_enter Tryz.func11, Tryz.ntmps11
  go_upto_region 1 with (fail)
  rw [← HW.out]
  clear HW
  go_wp2_with fail
  refine (HTP.out _).mono ?_
  rintro e w2 ⟨_, rfl, b2, rfl⟩
  obtain ⟨w3, hw3, b3, -, -, -⟩ := bx1 w2 [.int .u32 1] 57
  have HW := Lib.hid hw3
  have RD1 : Hid (RdL w3 (.slice (some ⟨w2.heap.size, 0, none⟩) 1 1) [1]) := by show RdL _ _ _; rw [hw3]; exact lit1_rd w2 1 (by decide)
  clear hw3
  go_upto_region 6 with (fail)
  rw [← HW.out]
  clear HW
  by_cases hp : pos 47 T < T.length
  · rw [if_pos hp] at HRD
    have HCU : Hid (∀ w', Ext w w' → Calls Tryz.prog 38 #[.string (strOf T), .string ⟨#[47]⟩] w' (Gives w' fun v' _ => v' = .tuple #[.string (strOf (T.take (pos 47 T))), .string (strOf (T.drop (pos 47 T + 1))), .bool true])) := fun w' x => cut_yes 47 HTF.out (by have := HTL.out; omega) (HM.out _ x) hp
    have HXF := Lib.hid (HTF.out.take (pos 47 T))
    have HYF := Lib.hid (Fit.drop HTF.out (pos 47 T + 1))
    have HXL : Hid ((T.take (pos 47 T)).length ≤ 20000) := by show _ ≤ _; rw [List.length_take]; have := HTL.out; omega
    have HYL : Hid ((T.drop (pos 47 T + 1)).length ≤ 20000) := by show _ ≤ _; rw [List.length_drop]; have := HTL.out; omega
    generalize T.take (pos 47 T) = X at *
    generalize T.drop (pos 47 T + 1) = Y at *
    clear hp
    go_wp2_with fail
    refine (HCU.out _ (Ext.trans b1 (Ext.trans b2 b3))).mono ?_
    rintro e w4 ⟨_, rfl, b4, rfl⟩
    go_wp2_with fail
    cases hg : goodB Y with
    | false =>
      rw [show rt = none by rw [HRD.out, if_neg (by rw [hg]; decide)]] at hR
      refine (dparse_no HYF.out hg HYL.out).mono ?_
      rintro e w5 ⟨_, rfl, b5, rfl⟩
      clear hg HRD
      obtain ⟨_, _, _, j0, j1, j2, i0, i1, i2⟩ := (R1.out.ext (Ext.trans b2 (Ext.trans b3 (Ext.trans b4 b5)))).rm.c3
      go_wp2_with fail
      refine bodyPost_ret (v := .tuple #[.agg #[.bool false, .slice none 0 0, .slice none 0 0], .int .i64 3]) (by simp [results, Tryz.results11, go_sem, j0, j1, j2]) rfl ?_
      exact hR.out _ _ (Gives.mk (put3_below (Ext.trans b1 (Ext.trans b2 (Ext.trans b3 (Ext.trans b4 b5)))) (Nat.le_refl _) _ _ _) rfl)
    | true =>
      rw [if_pos hg] at HRD
      refine (dparse_yes hg HYL.out).mono ?_
      rintro e w5 ⟨_, rfl, b5, vd, rfl, od⟩
      have HDN0 := Lib.hid od.rd
      obtain ⟨ad, cd, rfl, -, -, -, -⟩ := od.rd.1.shape
      have HDL : Hid ((limbs (numOf Y)).length ≤ 1000000) := by
        exact limbs_of_pow (numOf_lt _ (goodB_iff.1 hg).2) (by have := HYL.out; omega)
      clear od hg
      have hnv := nv_limbs (numOf Y)
      rw [← hnv] at HRD
      clear hnv
      generalize limbs (numOf Y) = ds at *
      have hdl := HDL.out
      go_wp2_with fail
      have bk := (Ext.trans b2 (Ext.trans b3 (Ext.trans b4 b5)))
      have HDN := Lib.hid HDN0.out
      cases hg : goodB X with
      | false =>
        rw [show rt = none by rw [HRD.out]; unfold frac; rw [if_neg (by rw [hg]; decide)]] at hR
        refine (dparse_no HXF.out hg HXL.out).mono ?_
        rintro e w8 ⟨_, rfl, b8, rfl⟩
        clear hg HRD
        obtain ⟨_, _, _, j0, j1, j2, i0, i1, i2⟩ := (R1.out.ext (Ext.trans bk b8)).rm.c3
        go_wp2_with fail
        refine bodyPost_ret (v := .tuple #[.agg #[.bool false, .slice none 0 0, .slice none 0 0], .int .i64 3]) (by simp [results, Tryz.results11, go_sem, j0, j1, j2]) rfl ?_
        exact hR.out _ _ (Gives.mk (put3_below (Ext.trans b1 (Ext.trans bk b8)) (Nat.le_refl _) _ _ _) rfl)
      | true =>
        refine (dparse_yes hg HXL.out).mono ?_
        rintro e w8 ⟨_, rfl, b8, vn, rfl, on⟩
        have ON := Lib.hid on.rd
        obtain ⟨an, cn, rfl, -, -, -, -⟩ := on.rd.1.shape
        clear on
        have HNL : Hid ((limbs (numOf X)).length ≤ 1000000) := by
          exact limbs_of_pow (numOf_lt _ (goodB_iff.1 hg).2) (by have := HXL.out; omega)
        by_cases h0 : nv ds = 0
        · rw [show rt = none by rw [HRD.out]; unfold frac; rw [if_pos hg, if_pos h0]] at hR
          have HMK : Hid (∀ w', Ext w8 w' → Calls Tryz.prog 24 #[.bool neg, .slice an (limbs (numOf X)).length cn, .slice ad ds.length cd] w' (Gives w' fun v' _ => v' = .tuple #[.agg #[.bool false, .slice none 0 0, .slice none 0 0], .bool false])) := fun w' x => make_no (HDN.out.ext (Ext.trans b8 x)) (by have := HDL.out; omega) h0
          clear hg h0 HRD HDN
          generalize (limbs (numOf X)).length = ln at *
          go_wp2_with fail
          refine (HMK.out _ (Ext.refl _)).mono ?_
          rintro e w9 ⟨_, rfl, b9, rfl⟩
          obtain ⟨w10, hw10, b10, c10, -, -⟩ := bx1 w9 [.bool false, .slice none 0 0, .slice none 0 0] 26
          have HW := Lib.hid hw10
          clear hw10 c10
          go_upto_region 22 with (fail)
          rw [← HW.out]
          clear HW
          obtain ⟨_, _, _, j0, j1, j2, i0, i1, i2⟩ := (R1.out.ext (Ext.trans bk (Ext.trans b8 (Ext.trans b9 b10)))).rm.c3
          go_wp2_with fail
          refine bodyPost_ret (v := .tuple #[.agg #[.bool false, .slice none 0 0, .slice none 0 0], .int .i64 3]) (by simp [results, Tryz.results11, go_sem, j0, j1, j2]) rfl ?_
          exact hR.out _ _ (Gives.mk (put3_below (Ext.trans b1 (Ext.trans bk (Ext.trans b8 (Ext.trans b9 b10)))) (Nat.le_refl _) _ _ _) rfl)
        · rw [show rt = some (mkQ neg (numOf X) (nv ds)) by rw [HRD.out]; unfold frac; rw [if_pos hg, if_neg h0]] at hR
          have HMK : Hid (∀ w', Ext w8 w' → Calls Tryz.prog 24 #[.bool neg, .slice an (limbs (numOf X)).length cn, .slice ad ds.length cd] w' (Gives w' fun v' w'' => ∃ o, v' = .tuple #[o, .bool true] ∧ OwnQ 57 w'.heap.size w'' o (mkQ neg (numOf X) (nv ds)))) := fun w' x => make_any (ON.out.ext x) (HDN.out.ext (Ext.trans b8 x)) (by have := HNL.out; omega) (by have := HDL.out; omega) h0 (by rw [nv_limbs])
          clear hg h0 HRD HDN ON HNL
          generalize (limbs (numOf X)).length = ln at *
          generalize mkQ neg (numOf X) (nv ds) = q at *
          go_wp2_with fail
          refine (HMK.out _ (Ext.refl _)).mono ?_
          rintro e w9 ⟨_, rfl, b9, o, rfl, o9⟩
          obtain ⟨z0, d3, n3, e3, d4, n4, e4, rfl, O9⟩ := o9.op
          clear o9
          obtain ⟨w10, hw10, b10, c10, -, -⟩ := bx1 w9 [.bool z0, .slice d3 n3 e3, .slice d4 n4 e4] 26
          have HW := Lib.hid hw10
          have C10 := Lib.hid c10
          clear hw10 c10
          go_upto_region 22 with (fail)
          rw [← HW.out]
          clear HW
          have R10 := Lib.hid (R1.out.ext (Ext.trans bk (Ext.trans b8 (Ext.trans b9 b10))))
          obtain ⟨_, _, _, j0, j1, j2, i0, i1, i2⟩ := R10.out.rm.c3
          obtain ⟨k0, k1, k2⟩ := C10.out.c3
          go_wp2_with fail
          refine bodyPost_ret (v := .tuple #[.agg #[.bool z0, .slice d3 n3 e3, .slice d4 n4 e4], .int .i64 0]) (by simp [results, Tryz.results11, go_sem, j0, j1, j2]) rfl ?_
          exact hR.out _ _ (Gives.mk (put3_below (Ext.trans b1 (Ext.trans bk (Ext.trans b8 (Ext.trans b9 b10)))) (Nat.le_refl _) _ _ _) ⟨_, rfl, OwnQ.putT ((O9.out.mono (Nat.zero_le _)).ext b10) R10.out (by decide) 0 [_, _, _]⟩)
  · rw [if_neg hp] at HRD
    have HCU : Hid (∀ w', Ext w w' → Calls Tryz.prog 38 #[.string (strOf T), .string ⟨#[47]⟩] w' (Gives w' fun v' _ => v' = .tuple #[.string (strOf T), .string ⟨#[]⟩, .bool false])) := fun w' x => cut_no 47 HTF.out (by have := HTL.out; omega) (HM.out _ x) hp
    clear hp
    go_wp2_with fail
    refine (HCU.out _ (Ext.trans b1 (Ext.trans b2 b3))).mono ?_
    rintro e w4 ⟨_, rfl, b4, rfl⟩
    by_cases hp : pos 46 T < T.length
    · rw [if_pos hp] at HRD
      have HCV : Hid (∀ w', Ext w w' → Calls Tryz.prog 38 #[.string (strOf T), .string ⟨#[46]⟩] w' (Gives w' fun v' _ => v' = .tuple #[.string (strOf (T.take (pos 46 T))), .string (strOf (T.drop (pos 46 T + 1))), .bool true])) := fun w' x => cut_yes 46 HTF.out (by have := HTL.out; omega) (HM.out _ x) hp
      have HXF := Lib.hid (HTF.out.take (pos 46 T))
      have HYF := Lib.hid (Fit.drop HTF.out (pos 46 T + 1))
      have HXYL : Hid ((T.take (pos 46 T)).length + (T.drop (pos 46 T + 1)).length ≤ 20000) := by show _ ≤ _; rw [List.length_take, List.length_drop]; have := HTL.out; omega
      generalize T.take (pos 46 T) = X at *
      generalize T.drop (pos 46 T + 1) = Y at *
      clear hp
      go_wp2_with fail
      refine (HCV.out _ (Ext.trans b1 (Ext.trans b2 (Ext.trans b3 b4)))).mono ?_
      rintro e w5 ⟨_, rfl, b5, rfl⟩
      by_cases he : X = [] ∨ Y = []
      · rw [if_pos he] at HRD
        rw [HRD.out] at hR
        have hee : ((strOf X).toList == []) = true ∨ ((strOf X).toList == []) = false ∧ ((strOf Y).toList == []) = true := by
          rcases he with rfl | rfl
          · left; rw [strOf_nil, ByteArray.toList_eq]; rfl
          · by_cases hX : X = []
            · left; rw [hX, strOf_nil, ByteArray.toList_eq]; rfl
            · right; exact ⟨str_some hX, by rw [strOf_nil, ByteArray.toList_eq]; rfl⟩
        clear he HRD
        generalize strOf X = SX at *
        generalize strOf Y = SY at *
        rcases hee with hee | ⟨hee, hef⟩
        · obtain ⟨_, _, _, j0, j1, j2, i0, i1, i2⟩ := (R1.out.ext (Ext.trans b2 (Ext.trans b3 (Ext.trans b4 b5)))).rm.c3
          go_wp2_with fail
          refine bodyPost_ret (v := .tuple #[.agg #[.bool false, .slice none 0 0, .slice none 0 0], .int .i64 3]) (by simp [results, Tryz.results11, go_sem, j0, j1, j2]) rfl ?_
          exact hR.out _ _ (Gives.mk (put3_below (Ext.trans b1 (Ext.trans b2 (Ext.trans b3 (Ext.trans b4 b5)))) (Nat.le_refl _) _ _ _) rfl)
        · obtain ⟨_, _, _, j0, j1, j2, i0, i1, i2⟩ := (R1.out.ext (Ext.trans b2 (Ext.trans b3 (Ext.trans b4 b5)))).rm.c3
          go_wp2_with fail
          refine bodyPost_ret (v := .tuple #[.agg #[.bool false, .slice none 0 0, .slice none 0 0], .int .i64 3]) (by simp [results, Tryz.results11, go_sem, j0, j1, j2]) rfl ?_
          exact hR.out _ _ (Gives.mk (put3_below (Ext.trans b1 (Ext.trans b2 (Ext.trans b3 (Ext.trans b4 b5)))) (Nat.le_refl _) _ _ _) rfl)
      · rw [if_neg he] at HRD
        have he1 : ((strOf X).toList == []) = false := str_some fun h => he (.inl h)
        have he2 : ((strOf Y).toList == []) = false := str_some fun h => he (.inr h)
        have HXL : Hid ((X ++ Y).length ≤ 20000) := by show _ ≤ _; rw [List.length_append]; exact HXYL.out
        have HXF2 := Lib.hid (Fit.append HXF.out HYF.out)
        have hlx := strOf_size X
        have hly := strOf_size Y
        have hbx : X.length ≤ 20000 := by have := HXYL.out; omega
        have hby : Y.length ≤ 20000 := by have := HXYL.out; omega
        have HTN : Hid (∀ w : World, Calls Tryz.prog 40 #[.int .i64 Y.length] w (Gives w fun v' w' => ∃ v, v' = .tuple #[v, .int .i64 0] ∧ OwnL 57 w.heap.size w' v (limbs (10 ^ Y.length)))) := fun w => tens_ok hby
        have HDL : Hid ((limbs (10 ^ Y.length)).length ≤ 1000000) := by
          exact limbs_of_pow (Nat.pow_lt_pow_right (by decide) (show Y.length < Y.length + 1 by omega)) (by omega)
        have hnv := nv_limbs (10 ^ Y.length)
        rw [← hnv] at HRD
        clear hnv he
        generalize limbs (10 ^ Y.length) = ds at *
        have HAP := Lib.hid (strOf_app X Y)
        generalize X ++ Y = XY at *
        generalize strOf X = SX at *
        generalize strOf Y = SY at *
        go_wp2_with fail
        refine (HTN.out _).mono ?_
        rintro e w6 ⟨_, rfl, b6, vd, rfl, od⟩
        have HDN := Lib.hid od.rd
        obtain ⟨ad, cd, rfl, -, -, -, -⟩ := od.rd.1.shape
        have hdl := HDL.out
        clear od
        rw [← HAP.out]
        go_wp2_with fail
        have bk := (Ext.trans b2 (Ext.trans b3 (Ext.trans b4 (Ext.trans b5 b6))))
        have HXF := Lib.hid HXF2.out
        cases hg : goodB XY with
        | false =>
          rw [show rt = none by rw [HRD.out]; unfold frac; rw [if_neg (by rw [hg]; decide)]] at hR
          refine (dparse_no HXF.out hg HXL.out).mono ?_
          rintro e w8 ⟨_, rfl, b8, rfl⟩
          clear hg HRD
          obtain ⟨_, _, _, j0, j1, j2, i0, i1, i2⟩ := (R1.out.ext (Ext.trans bk b8)).rm.c3
          go_wp2_with fail
          refine bodyPost_ret (v := .tuple #[.agg #[.bool false, .slice none 0 0, .slice none 0 0], .int .i64 3]) (by simp [results, Tryz.results11, go_sem, j0, j1, j2]) rfl ?_
          exact hR.out _ _ (Gives.mk (put3_below (Ext.trans b1 (Ext.trans bk b8)) (Nat.le_refl _) _ _ _) rfl)
        | true =>
          refine (dparse_yes hg HXL.out).mono ?_
          rintro e w8 ⟨_, rfl, b8, vn, rfl, on⟩
          have ON := Lib.hid on.rd
          obtain ⟨an, cn, rfl, -, -, -, -⟩ := on.rd.1.shape
          clear on
          have HNL : Hid ((limbs (numOf XY)).length ≤ 1000000) := by
            exact limbs_of_pow (numOf_lt _ (goodB_iff.1 hg).2) (by have := HXL.out; omega)
          by_cases h0 : nv ds = 0
          · rw [show rt = none by rw [HRD.out]; unfold frac; rw [if_pos hg, if_pos h0]] at hR
            have HMK : Hid (∀ w', Ext w8 w' → Calls Tryz.prog 24 #[.bool neg, .slice an (limbs (numOf XY)).length cn, .slice ad ds.length cd] w' (Gives w' fun v' _ => v' = .tuple #[.agg #[.bool false, .slice none 0 0, .slice none 0 0], .bool false])) := fun w' x => make_no (HDN.out.ext (Ext.trans b8 x)) (by have := HDL.out; omega) h0
            clear hg h0 HRD HDN
            generalize (limbs (numOf XY)).length = ln at *
            go_wp2_with fail
            refine (HMK.out _ (Ext.refl _)).mono ?_
            rintro e w9 ⟨_, rfl, b9, rfl⟩
            obtain ⟨w10, hw10, b10, c10, -, -⟩ := bx1 w9 [.bool false, .slice none 0 0, .slice none 0 0] 26
            have HW := Lib.hid hw10
            clear hw10 c10
            go_upto_region 22 with (fail)
            rw [← HW.out]
            clear HW
            obtain ⟨_, _, _, j0, j1, j2, i0, i1, i2⟩ := (R1.out.ext (Ext.trans bk (Ext.trans b8 (Ext.trans b9 b10)))).rm.c3
            go_wp2_with fail
            refine bodyPost_ret (v := .tuple #[.agg #[.bool false, .slice none 0 0, .slice none 0 0], .int .i64 3]) (by simp [results, Tryz.results11, go_sem, j0, j1, j2]) rfl ?_
            exact hR.out _ _ (Gives.mk (put3_below (Ext.trans b1 (Ext.trans bk (Ext.trans b8 (Ext.trans b9 b10)))) (Nat.le_refl _) _ _ _) rfl)
          · rw [show rt = some (mkQ neg (numOf XY) (nv ds)) by rw [HRD.out]; unfold frac; rw [if_pos hg, if_neg h0]] at hR
            have HMK : Hid (∀ w', Ext w8 w' → Calls Tryz.prog 24 #[.bool neg, .slice an (limbs (numOf XY)).length cn, .slice ad ds.length cd] w' (Gives w' fun v' w'' => ∃ o, v' = .tuple #[o, .bool true] ∧ OwnQ 57 w'.heap.size w'' o (mkQ neg (numOf XY) (nv ds)))) := fun w' x => make_any (ON.out.ext x) (HDN.out.ext (Ext.trans b8 x)) (by have := HNL.out; omega) (by have := HDL.out; omega) h0 (by rw [nv_limbs])
            clear hg h0 HRD HDN ON HNL
            generalize (limbs (numOf XY)).length = ln at *
            generalize mkQ neg (numOf XY) (nv ds) = q at *
            go_wp2_with fail
            refine (HMK.out _ (Ext.refl _)).mono ?_
            rintro e w9 ⟨_, rfl, b9, o, rfl, o9⟩
            obtain ⟨z0, d3, n3, e3, d4, n4, e4, rfl, O9⟩ := o9.op
            clear o9
            obtain ⟨w10, hw10, b10, c10, -, -⟩ := bx1 w9 [.bool z0, .slice d3 n3 e3, .slice d4 n4 e4] 26
            have HW := Lib.hid hw10
            have C10 := Lib.hid c10
            clear hw10 c10
            go_upto_region 22 with (fail)
            rw [← HW.out]
            clear HW
            have R10 := Lib.hid (R1.out.ext (Ext.trans bk (Ext.trans b8 (Ext.trans b9 b10))))
            obtain ⟨_, _, _, j0, j1, j2, i0, i1, i2⟩ := R10.out.rm.c3
            obtain ⟨k0, k1, k2⟩ := C10.out.c3
            go_wp2_with fail
            refine bodyPost_ret (v := .tuple #[.agg #[.bool z0, .slice d3 n3 e3, .slice d4 n4 e4], .int .i64 0]) (by simp [results, Tryz.results11, go_sem, j0, j1, j2]) rfl ?_
            exact hR.out _ _ (Gives.mk (put3_below (Ext.trans b1 (Ext.trans bk (Ext.trans b8 (Ext.trans b9 b10)))) (Nat.le_refl _) _ _ _) ⟨_, rfl, OwnQ.putT ((O9.out.mono (Nat.zero_le _)).ext b10) R10.out (by decide) 0 [_, _, _]⟩)
    · rw [if_neg hp] at HRD
      have HCV : Hid (∀ w', Ext w w' → Calls Tryz.prog 38 #[.string (strOf T), .string ⟨#[46]⟩] w' (Gives w' fun v' _ => v' = .tuple #[.string (strOf T), .string ⟨#[]⟩, .bool false])) := fun w' x => cut_no 46 HTF.out (by have := HTL.out; omega) (HM.out _ x) hp
      clear hp
      go_wp2_with fail
      refine (HCV.out _ (Ext.trans b1 (Ext.trans b2 (Ext.trans b3 b4)))).mono ?_
      rintro e w5 ⟨_, rfl, b5, rfl⟩
      go_wp2_with fail
      have bk := (Ext.trans b2 (Ext.trans b3 (Ext.trans b4 b5)))
      have HXF := Lib.hid HTF.out
      have HXL := Lib.hid HTL.out
      have HDN := Lib.hid (RD1.out.ext (Ext.trans b4 b5))
      have HDL : Hid ([1].length ≤ 1000000) := by show 1 ≤ _; decide
      rw [show (1 : Nat) = nv [1] by decide] at HRD
      cases hg : goodB T with
      | false =>
        rw [show rt = none by rw [HRD.out]; unfold frac; rw [if_neg (by rw [hg]; decide)]] at hR
        refine (dparse_no HXF.out hg HXL.out).mono ?_
        rintro e w8 ⟨_, rfl, b8, rfl⟩
        clear hg HRD
        obtain ⟨_, _, _, j0, j1, j2, i0, i1, i2⟩ := (R1.out.ext (Ext.trans bk b8)).rm.c3
        go_wp2_with fail
        refine bodyPost_ret (v := .tuple #[.agg #[.bool false, .slice none 0 0, .slice none 0 0], .int .i64 3]) (by simp [results, Tryz.results11, go_sem, j0, j1, j2]) rfl ?_
        exact hR.out _ _ (Gives.mk (put3_below (Ext.trans b1 (Ext.trans bk b8)) (Nat.le_refl _) _ _ _) rfl)
      | true =>
        refine (dparse_yes hg HXL.out).mono ?_
        rintro e w8 ⟨_, rfl, b8, vn, rfl, on⟩
        have ON := Lib.hid on.rd
        obtain ⟨an, cn, rfl, -, -, -, -⟩ := on.rd.1.shape
        clear on
        have HNL : Hid ((limbs (numOf T)).length ≤ 1000000) := by
          exact limbs_of_pow (numOf_lt _ (goodB_iff.1 hg).2) (by have := HXL.out; omega)
        by_cases h0 : nv [1] = 0
        · rw [show rt = none by rw [HRD.out]; unfold frac; rw [if_pos hg, if_pos h0]] at hR
          have HMK : Hid (∀ w', Ext w8 w' → Calls Tryz.prog 24 #[.bool neg, .slice an (limbs (numOf T)).length cn, .slice (some ⟨w2.heap.size, 0, none⟩) 1 1] w' (Gives w' fun v' _ => v' = .tuple #[.agg #[.bool false, .slice none 0 0, .slice none 0 0], .bool false])) := fun w' x => make_no (HDN.out.ext (Ext.trans b8 x)) (by have := HDL.out; omega) h0
          clear hg h0 HRD HDN
          generalize (limbs (numOf T)).length = ln at *
          go_wp2_with fail
          refine (HMK.out _ (Ext.refl _)).mono ?_
          rintro e w9 ⟨_, rfl, b9, rfl⟩
          obtain ⟨w10, hw10, b10, c10, -, -⟩ := bx1 w9 [.bool false, .slice none 0 0, .slice none 0 0] 26
          have HW := Lib.hid hw10
          clear hw10 c10
          go_upto_region 22 with (fail)
          rw [← HW.out]
          clear HW
          obtain ⟨_, _, _, j0, j1, j2, i0, i1, i2⟩ := (R1.out.ext (Ext.trans bk (Ext.trans b8 (Ext.trans b9 b10)))).rm.c3
          go_wp2_with fail
          refine bodyPost_ret (v := .tuple #[.agg #[.bool false, .slice none 0 0, .slice none 0 0], .int .i64 3]) (by simp [results, Tryz.results11, go_sem, j0, j1, j2]) rfl ?_
          exact hR.out _ _ (Gives.mk (put3_below (Ext.trans b1 (Ext.trans bk (Ext.trans b8 (Ext.trans b9 b10)))) (Nat.le_refl _) _ _ _) rfl)
        · rw [show rt = some (mkQ neg (numOf T) (nv [1])) by rw [HRD.out]; unfold frac; rw [if_pos hg, if_neg h0]] at hR
          have HMK : Hid (∀ w', Ext w8 w' → Calls Tryz.prog 24 #[.bool neg, .slice an (limbs (numOf T)).length cn, .slice (some ⟨w2.heap.size, 0, none⟩) 1 1] w' (Gives w' fun v' w'' => ∃ o, v' = .tuple #[o, .bool true] ∧ OwnQ 57 w'.heap.size w'' o (mkQ neg (numOf T) (nv [1])))) := fun w' x => make_any (ON.out.ext x) (HDN.out.ext (Ext.trans b8 x)) (by have := HNL.out; omega) (by have := HDL.out; omega) h0 (by rw [nv_limbs])
          clear hg h0 HRD HDN ON HNL
          generalize (limbs (numOf T)).length = ln at *
          generalize mkQ neg (numOf T) (nv [1]) = q at *
          go_wp2_with fail
          refine (HMK.out _ (Ext.refl _)).mono ?_
          rintro e w9 ⟨_, rfl, b9, o, rfl, o9⟩
          obtain ⟨z0, d3, n3, e3, d4, n4, e4, rfl, O9⟩ := o9.op
          clear o9
          obtain ⟨w10, hw10, b10, c10, -, -⟩ := bx1 w9 [.bool z0, .slice d3 n3 e3, .slice d4 n4 e4] 26
          have HW := Lib.hid hw10
          have C10 := Lib.hid c10
          clear hw10 c10
          go_upto_region 22 with (fail)
          rw [← HW.out]
          clear HW
          have R10 := Lib.hid (R1.out.ext (Ext.trans bk (Ext.trans b8 (Ext.trans b9 b10))))
          obtain ⟨_, _, _, j0, j1, j2, i0, i1, i2⟩ := R10.out.rm.c3
          obtain ⟨k0, k1, k2⟩ := C10.out.c3
          go_wp2_with fail
          refine bodyPost_ret (v := .tuple #[.agg #[.bool z0, .slice d3 n3 e3, .slice d4 n4 e4], .int .i64 0]) (by simp [results, Tryz.results11, go_sem, j0, j1, j2]) rfl ?_
          exact hR.out _ _ (Gives.mk (put3_below (Ext.trans b1 (Ext.trans bk (Ext.trans b8 (Ext.trans b9 b10)))) (Nat.le_refl _) _ _ _) ⟨_, rfl, OwnQ.putT ((O9.out.mono (Nat.zero_le _)).ext b10) R10.out (by decide) 0 [_, _, _]⟩)
end Go.Proofs.YtgajpmcjjefghaaGreatDoor
