/- attestref06.Parse -/
import Derived.Test.YtgajpmcjjefghaaDoorPR6at
import Derived.Test.YtgajpmcjjefghaaDoorPRef5Of
import Derived.Test.YtgajpmcjjefghaaDoorPRef5Int
namespace Go.Proofs.YtgajpmcjjefghaaDoor
open Go.RowKit Go.Att

/-- What the document answers. -/
def RtP (w : World) (v : Value) : Option Rat → Prop
  | some q => ∃ o, v = .tuple #[o, .bool true] ∧ OwnP 4 0 w o q
  | none => ∃ s a l c a' l' c', v = .tuple #[.agg #[.bool s, .slice a l c, .slice a' l' c'], .bool false]
theorem stripN_false {L : List Nat} (h : (stripN L).1 = false) : (stripN L).2 = L := by
  cases L with
  | nil => rfl
  | cons x r =>
    rw [stripN_cons] at h ⊢
    by_cases hx : x = 45
    · rw [if_pos hx] at h; exact absurd h (by simp)
    · rw [if_neg hx]
theorem stripN_true {L : List Nat} (h : (stripN L).1 = true) : (stripN L).2 = L.drop 1 ∧ 0 < L.length := by
  cases L with
  | nil => exact absurd h (by decide)
  | cons x r =>
    rw [stripN_cons] at h ⊢
    by_cases hx : x = 45
    · rw [if_pos hx]; exact ⟨rfl, by simp⟩
    · rw [if_neg hx] at h; exact absurd h (by simp)
theorem goodB_app {X Y : List Nat} (hx : goodB X = true) (hy : goodB Y = true) : goodB (X ++ Y) = true :=
  goodB_iff.2 ⟨by rw [List.length_append]; have := (goodB_iff.1 hx).1; omega, Digs.app (goodB_iff.1 hx).2 (goodB_iff.1 hy).2⟩
theorem goodB_parts {X Y : List Nat} (h : goodB (X ++ Y) = true) (hx : X ≠ []) (hy : Y ≠ []) : goodB X = true ∧ goodB Y = true := by
  have hd := (goodB_iff.1 h).2
  exact ⟨goodB_iff.2 ⟨List.length_pos_iff.2 hx, fun x h => hd x (List.mem_append_left _ h)⟩, goodB_iff.2 ⟨List.length_pos_iff.2 hy, fun x h => hd x (List.mem_append_right _ h)⟩⟩
theorem goodB_nil : goodB [] = false := rfl
/-- What the document reads of digits. -/
def R4 (B : Nat) (w : World) (v : Value) (X : List Nat) : Prop := ∃ a l c, v = .tuple #[.slice a l c, .bool (goodB X)] ∧ (goodB X = true → OwnB 4 B w (.slice a l c) (bitsOf (numOf X)) ∧ l = (bitsOf (numOf X)).length)
theorem r4p_all {w : World} {X : List Nat} (hf : Fit 256 X) (hl : X.length ≤ 2000) :
    Calls Tryd.prog 14 #[.string (strOf X)] w (Gives w fun v' w' => R4 w.heap.size w' v' X) := by
  cases hg : goodB X with
  | true =>
    refine (r4p_yes hg hl).mono ?_
    rintro e w' ⟨_, rfl, b, v, rfl, o⟩
    obtain ⟨a, c, rfl, -, -, -, -⟩ := o.rd.shape
    exact Gives.mk b ⟨_, _, _, by rw [hg], fun _ => ⟨o, rfl⟩⟩
  | false =>
    refine (r4p_no hf hg hl).mono ?_
    rintro e w' ⟨_, rfl, b, rfl⟩
    exact Gives.mk b ⟨_, _, _, by rw [hg], fun h => by rw [hg] at h; exact absurd h (by decide)⟩
set_option maxHeartbeats 4000000 in
set_option maxRecDepth 100000 in
theorem r6parse_any {w : World} {L : List Nat} (hf : Fit 256 L) (hl : L.length ≤ 300) :
    Calls Tryd.prog 36 #[.string (strOf L)] w (Gives w fun v' w' => RtP w' v' (readT L)) := by
  refine via fun R hR => ?_
  obtain ⟨rt, hrt⟩ : ∃ rt, rt = readT L := ⟨_, rfl⟩
  rw [← hrt] at hR
  unfold readT at hrt
  have HRD := Lib.hid hrt
  clear hrt
  have HF := Lib.hid hf
  have HTF := Lib.hid (stripN_fit hf)
  have HTL : Hid ((stripN L).2.length ≤ 300) := by show _ ≤ _; rw [stripN_len]; omega
  have hsz := strOf_size L
  obtain ⟨w1, hw1, b1, -, r1, -⟩ := bx1 w [.bool false, .slice none 0 0, .slice none 0 0] 52
  have HW := Lib.hid hw1
  have R1 : Hid (Rt w1 w.heap.size 3 52) := by show Rt _ _ _ _; rw [hw1]; exact Rt.new w [_, _, _] _
  have HI0 : Hid (∀ w, Calls Tryd.prog 58 #[.int .i64 0] w (Gives w fun v' w' => ∃ o, v' = o ∧ OwnP 4 w.heap.size w' o ((0 : Int) : Rat))) := fun w => (r5int_any (u := 0) (by omega)).mono fun _ _ ⟨v, e, b, o⟩ => ⟨v, e, b, _, rfl, o⟩
  clear hw1 r1
  have HAT : Hid (∀ i (h : i < (strOf L).size), ((strOf L)[i]'h).toNat = nth L i) := fun i h => strOf_at hf h
  have HNEG : Hid ((stripN L).1 = (decide (0 < L.length) && decide (nth L 0 = 45))) := by
    show _ = _
    cases L with
    | nil => rfl
    | cons x r =>
      rw [stripN_cons]
      have h0 : nth (x :: r) 0 = x := by rw [nth_lt _ _ (by simp)]; rfl
      rw [h0]
      by_cases hx : x = 45
      · rw [if_pos hx, decide_eq_true hx]; simp
      · rw [if_neg hx, decide_eq_false hx]; simp
  have HFA : Hid ((stripN L).1 = false → strOf L = strOf (stripN L).2) := fun h => by rw [stripN_false h]
  have HTR : Hid ((stripN L).1 = true → (strOf L).extract 1 L.length = strOf (stripN L).2 ∧ 0 < L.length) := fun h => by
    obtain ⟨h1, h2⟩ := stripN_true h
    exact ⟨by rw [h1]; exact strOf_from L 1 _ rfl, h2⟩
  have hsT := strOf_size (stripN L).2
  generalize (stripN L).2 = T at *
  generalize (stripN L).1 = neg at *
  generalize strOf L = S at *
  go_enter Tryd.func36, Tryd.ntmps36
  go_upto_region 1 with (fail)
  rw [← HW.out]
  clear HW
  go_cut [4] (fun s4 wx => s4 = .bool neg ∧ w1 = wx)
  case first =>
    by_cases hll : 0 < L.length
    · have hkS : 0 < S.size := by omega
      obtain ⟨x, hx⟩ : ∃ x : UInt8, S[0]'hkS = x := ⟨_, rfl⟩
      have hxn : x.toNat = nth L 0 := by rw [← hx]; exact HAT.out 0 hkS
      have HN2 : Hid (neg = (((x.toNat : Int) == 45))) := by
        show _ = _
        rw [HNEG.out, decide_eq_true hll, Bool.true_and, ← hxn]
        by_cases h : x.toNat = 45
        · rw [h]; rfl
        · rw [decide_eq_false h]; exact (beqF (by omega)).symm
      clear hxn
      go_wp2_with fail
      go_meet
      exact ⟨by rw [HN2.out], rfl⟩
    · have HN2 : Hid (neg = false) := by show _ = _; rw [HNEG.out, decide_eq_false hll, Bool.false_and]
      go_wp2_with fail
      go_meet
      exact ⟨by rw [HN2.out], rfl⟩
  case rest =>
    obtain ⟨rfl, rfl⟩ := hcut
    go_upto_if 26 with (fail)
    go_cut [0] (fun s0 wx => s0 = .string (strOf T) ∧ w1 = wx)
    case first =>
      cases neg with
      | false =>
        have HFE := Lib.hid (HFA.out rfl)
        go_wp2_with fail
        go_meet
        exact ⟨by rw [HFE.out], rfl⟩
      | true =>
        obtain ⟨hx, h0⟩ := HTR.out rfl
        have HX := Lib.hid hx
        go_wp2_with fail
        go_meet
        exact ⟨rfl, rfl⟩
    case rest =>
      obtain ⟨rfl, rfl⟩ := hcut
      have HA1 : Hid (∀ w, Calls Tryd.prog 63 #[.string (strOf T), .int .u8 47] w (Gives w fun v' _ => v' = .int .i64 (if pos 47 T < T.length then ((pos 47 T : Nat) : Int) else -1))) := fun w => r6at_any 47 HTF.out (by have := HTL.out; omega)
      have HA2 : Hid (∀ w, Calls Tryd.prog 63 #[.string (strOf T), .int .u8 46] w (Gives w fun v' _ => v' = .int .i64 (if pos 46 T < T.length then ((pos 46 T : Nat) : Int) else -1))) := fun w => r6at_any 46 HTF.out (by have := HTL.out; omega)
      clear HFA HTR HNEG HAT HF hsz
      by_cases h47 : pos 47 T < T.length
      · rw [if_pos h47] at HRD
        simp only [if_pos h47] at HA1
        have hx1 : (strOf T).extract 0 (pos 47 T) = strOf (T.take (pos 47 T)) := strOf_upto T _
        have hx2 : (strOf T).extract (pos 47 T + 1) T.length = strOf (T.drop (pos 47 T + 1)) := strOf_from T _ _ rfl
        have HX : Hid (∀ w, Calls Tryd.prog 14 #[.string (strOf (T.take (pos 47 T)))] w (Gives w fun v' w' => R4 w.heap.size w' v' (T.take (pos 47 T)))) := fun w => r4p_all (HTF.out.take _) (by rw [List.length_take]; have := HTL.out; omega)
        have HY : Hid (∀ w, Calls Tryd.prog 14 #[.string (strOf (T.drop (pos 47 T + 1)))] w (Gives w fun v' w' => R4 w.heap.size w' v' (T.drop (pos 47 T + 1)))) := fun w => r4p_all (Fit.drop HTF.out _) (by rw [List.length_drop]; have := HTL.out; omega)
        have HXL : Hid ((T.take (pos 47 T)).length ≤ 300) := by show _ ≤ _; rw [List.length_take]; have := HTL.out; omega
        have HYL : Hid ((T.drop (pos 47 T + 1)).length ≤ 300) := by show _ ≤ _; rw [List.length_drop]; have := HTL.out; omega
        have hTl := HTL.out
        generalize T.take (pos 47 T) = X at *
        generalize T.drop (pos 47 T + 1) = Y at *
        generalize pos 47 T = p at *
        generalize (if pos 46 T < T.length then ((pos 46 T : Nat) : Int) else -1) = z46 at *
        generalize strOf T = ST at *
        generalize strOf X = SX at *
        generalize strOf Y = SY at *
        go_wp2_with fail
        refine (HA1.out _).mono ?_
        rintro e w2 ⟨_, rfl, b2, rfl⟩
        go_wp2_with fail
        refine (HA2.out _).mono ?_
        rintro e w3 ⟨_, rfl, b3, rfl⟩
        go_wp2_with fail
        refine (HX.out _).mono ?_
        rintro e w4 ⟨_, rfl, b4, ax, lx, cx, rfl, hX⟩
        go_wp2_with fail
        refine (HY.out _).mono ?_
        rintro e w5 ⟨_, rfl, b5, ay, ly, cy, rfl, hY⟩
        have GX := Lib.hid hX
        have GY := Lib.hid hY
        have bk := (Ext.trans b2 (Ext.trans b3 (Ext.trans b4 b5)))
        clear hX hY
        cases hgx : goodB X with
        | false =>
          rw [show rt = none by rw [HRD.out]; unfold frac; rw [hgx]; split <;> simp] at hR
          clear HRD
          go_wp2_with fail
          refine (HI0.out _).mono ?_
          rintro e w9 ⟨_, rfl, b9, v9, rfl, o9⟩
          obtain ⟨z0, d3, n3, e3, d4, n4, e4, rfl, -⟩ := o9.op
          obtain ⟨_, _, _, j0, j1, j2, i0, i1, i2⟩ := (R1.out.ext (Ext.trans bk b9)).rm.c3
          go_wp2_with fail
          refine bodyPost_ret (v := .tuple #[.agg #[.bool z0, .slice d3 n3 e3, .slice d4 n4 e4], .bool false]) (by simp [results, Tryd.results36, go_sem, j0, j1, j2]) rfl ?_
          exact hR.out _ _ (Gives.mk (put3_below (Ext.trans b1 (Ext.trans bk b9)) (Nat.le_refl _) _ _ _) ⟨_, _, _, _, _, _, _, rfl⟩)
        | true =>
          cases hgy : goodB Y with
          | false =>
            rw [show rt = none by rw [HRD.out, if_neg (by rw [hgy]; decide)]] at hR
            clear HRD
            go_wp2_with fail
            refine (HI0.out _).mono ?_
            rintro e w9 ⟨_, rfl, b9, v9, rfl, o9⟩
            obtain ⟨z0, d3, n3, e3, d4, n4, e4, rfl, -⟩ := o9.op
            obtain ⟨_, _, _, j0, j1, j2, i0, i1, i2⟩ := (R1.out.ext (Ext.trans bk b9)).rm.c3
            go_wp2_with fail
            refine bodyPost_ret (v := .tuple #[.agg #[.bool z0, .slice d3 n3 e3, .slice d4 n4 e4], .bool false]) (by simp [results, Tryd.results36, go_sem, j0, j1, j2]) rfl ?_
            exact hR.out _ _ (Gives.mk (put3_below (Ext.trans b1 (Ext.trans bk b9)) (Nat.le_refl _) _ _ _) ⟨_, _, _, _, _, _, _, rfl⟩)
          | true =>
            obtain ⟨ox, rfl⟩ := GX.out hgx
            obtain ⟨oy, rfl⟩ := GY.out hgy
            have OX := Lib.hid ox
            have OY := Lib.hid oy
            have B1 := num_bits2 hgx
            have B2 := num_bits2 hgy
            clear ox oy
            by_cases h0 : numOf Y = 0
            · rw [show rt = none by rw [HRD.out]; unfold frac; rw [hgx, hgy, if_pos rfl, if_pos rfl, if_pos h0]] at hR
              have hl0 : (((bitsOf (numOf Y)).length : Int) == 0) = true := beqT (by rw [h0, bitsOf_zero]; rfl)
              clear HRD OX OY B1 B2 h0
              generalize (bitsOf (numOf X)).length = n1 at *
              generalize (bitsOf (numOf Y)).length = n2 at *
              go_wp2_with fail
              refine (HI0.out _).mono ?_
              rintro e w9 ⟨_, rfl, b9, v9, rfl, o9⟩
              obtain ⟨z0, d3, n3, e3, d4, n4, e4, rfl, -⟩ := o9.op
              obtain ⟨_, _, _, j0, j1, j2, i0, i1, i2⟩ := (R1.out.ext (Ext.trans bk b9)).rm.c3
              go_wp2_with fail
              refine bodyPost_ret (v := .tuple #[.agg #[.bool z0, .slice d3 n3 e3, .slice d4 n4 e4], .bool false]) (by simp [results, Tryd.results36, go_sem, j0, j1, j2]) rfl ?_
              exact hR.out _ _ (Gives.mk (put3_below (Ext.trans b1 (Ext.trans bk b9)) (Nat.le_refl _) _ _ _) ⟨_, _, _, _, _, _, _, rfl⟩)
            · rw [show rt = some (mkQ neg (numOf X) (numOf Y)) by rw [HRD.out]; unfold frac; rw [hgx, hgy, if_pos rfl, if_pos rfl, if_neg h0]] at hR
              have hl0 : (((bitsOf (numOf Y)).length : Int) == 0) = false := beqF (by
                intro h
                have h2 := (bitsOf_len (numOf Y) 0).1 (by omega)
                exact h0 (by simpa using h2))
              have HOF : Hid (∀ w', Ext w5 w' → Calls Tryd.prog 59 #[.bool neg, .slice ax (bitsOf (numOf X)).length cx, .slice ay (bitsOf (numOf Y)).length cy] w' (Gives w' fun v' w'' => OwnP 4 0 w'' v' (mkQ neg (numOf X) (numOf Y)))) := fun w' x => r5of_any (Nat.zero_le _) (OwnB.mono ((OX.out.ext b5).ext x) (Nat.zero_le _)) (OwnB.mono (OY.out.ext x) (Nat.zero_le _)) (by have := HXL.out; omega) (by have := HYL.out; omega) h0
              clear HRD OX OY B1 B2 h0
              generalize (bitsOf (numOf X)).length = n1 at *
              generalize (bitsOf (numOf Y)).length = n2 at *
              generalize mkQ neg (numOf X) (numOf Y) = q at *
              go_wp2_with fail
              refine (HOF.out _ (Ext.refl _)).mono ?_
              rintro e w9 ⟨v9, rfl, b9, o9⟩
              obtain ⟨z0, d3, n3, e3, d4, n4, e4, rfl, O9⟩ := o9.op
              have R10 := Lib.hid (R1.out.ext (Ext.trans bk b9))
              obtain ⟨_, _, _, j0, j1, j2, i0, i1, i2⟩ := R10.out.rm.c3
              go_wp2_with fail
              refine bodyPost_ret (v := .tuple #[.agg #[.bool z0, .slice d3 n3 e3, .slice d4 n4 e4], .bool true]) (by simp [results, Tryd.results36, go_sem, j0, j1, j2]) rfl ?_
              exact hR.out _ _ (Gives.mk (put3_below (Ext.trans b1 (Ext.trans bk b9)) (Nat.le_refl _) _ _ _) ⟨_, rfl, OwnP.putT O9.out R10.out (by decide) 0 [_, _, _]⟩)
      · rw [if_neg h47] at HRD
        simp only [if_neg h47] at HA1
        clear h47
        by_cases h46 : pos 46 T < T.length
        · rw [if_pos h46] at HRD
          simp only [if_pos h46] at HA2
          have hx1 : (strOf T).extract 0 (pos 46 T) = strOf (T.take (pos 46 T)) := strOf_upto T _
          have hx2 : (strOf T).extract (pos 46 T + 1) T.length = strOf (T.drop (pos 46 T + 1)) := strOf_from T _ _ rfl
          have HX : Hid (∀ w, Calls Tryd.prog 14 #[.string (strOf (T.take (pos 46 T)))] w (Gives w fun v' w' => R4 w.heap.size w' v' (T.take (pos 46 T)))) := fun w => r4p_all (HTF.out.take _) (by rw [List.length_take]; have := HTL.out; omega)
          have HY : Hid (∀ w, Calls Tryd.prog 14 #[.string (strOf (T.drop (pos 46 T + 1)))] w (Gives w fun v' w' => R4 w.heap.size w' v' (T.drop (pos 46 T + 1)))) := fun w => r4p_all (Fit.drop HTF.out _) (by rw [List.length_drop]; have := HTL.out; omega)
          have HXL : Hid ((T.take (pos 46 T)).length ≤ 300) := by show _ ≤ _; rw [List.length_take]; have := HTL.out; omega
          have HYL : Hid ((T.drop (pos 46 T + 1)).length ≤ 300) := by show _ ≤ _; rw [List.length_drop]; have := HTL.out; omega
          have HYE : Hid (((T.drop (pos 46 T + 1)).length : Int) = (T.length : Int) - (pos 46 T : Int) - 1) := by show _ = _; rw [List.length_drop]; omega
          have hTl := HTL.out
          generalize T.take (pos 46 T) = X at *
          generalize T.drop (pos 46 T + 1) = Y at *
          generalize pos 46 T = p at *
          have HTN : Hid (∀ w : World, Calls Tryd.prog 18 #[.int .i64 ((T.length : Int) - (p : Int) - 1)] w (Gives w fun v' w' => OwnB 4 w.heap.size w' v' (bitsOf (10 ^ Y.length)))) := fun w => by
            rw [← HYE.out]
            exact r4tens_any (by have := HYL.out; omega)
          generalize strOf T = ST at *
          generalize strOf X = SX at *
          generalize strOf Y = SY at *
          go_wp2_with fail
          refine (HA1.out _).mono ?_
          rintro e w2 ⟨_, rfl, b2, rfl⟩
          go_wp2_with fail
          refine (HA2.out _).mono ?_
          rintro e w3 ⟨_, rfl, b3, rfl⟩
          go_wp2_with fail
          refine (HX.out _).mono ?_
          rintro e w4 ⟨_, rfl, b4, ax, lx, cx, rfl, hX⟩
          go_wp2_with fail
          refine (HY.out _).mono ?_
          rintro e w5 ⟨_, rfl, b5, ay, ly, cy, rfl, hY⟩
          have GX := Lib.hid hX
          have GY := Lib.hid hY
          have bk := (Ext.trans b2 (Ext.trans b3 (Ext.trans b4 b5)))
          clear hX hY
          by_cases he : X = [] ∨ Y = []
          · rw [show rt = none by rw [HRD.out, if_pos he]] at hR
            clear HRD
            cases hgx : goodB X with
            | false =>
              go_wp2_with fail
              refine (HI0.out _).mono ?_
              rintro e w9 ⟨_, rfl, b9, v9, rfl, o9⟩
              obtain ⟨z0, d3, n3, e3, d4, n4, e4, rfl, -⟩ := o9.op
              obtain ⟨_, _, _, j0, j1, j2, i0, i1, i2⟩ := (R1.out.ext (Ext.trans bk b9)).rm.c3
              go_wp2_with fail
              refine bodyPost_ret (v := .tuple #[.agg #[.bool z0, .slice d3 n3 e3, .slice d4 n4 e4], .bool false]) (by simp [results, Tryd.results36, go_sem, j0, j1, j2]) rfl ?_
              exact hR.out _ _ (Gives.mk (put3_below (Ext.trans b1 (Ext.trans bk b9)) (Nat.le_refl _) _ _ _) ⟨_, _, _, _, _, _, _, rfl⟩)
            | true =>
              have hgy : goodB Y = false := by
                rcases he with rfl | rfl
                · exact absurd hgx (by decide)
                · rfl
              rw [hgy]
              go_wp2_with fail
              refine (HI0.out _).mono ?_
              rintro e w9 ⟨_, rfl, b9, v9, rfl, o9⟩
              obtain ⟨z0, d3, n3, e3, d4, n4, e4, rfl, -⟩ := o9.op
              obtain ⟨_, _, _, j0, j1, j2, i0, i1, i2⟩ := (R1.out.ext (Ext.trans bk b9)).rm.c3
              go_wp2_with fail
              refine bodyPost_ret (v := .tuple #[.agg #[.bool z0, .slice d3 n3 e3, .slice d4 n4 e4], .bool false]) (by simp [results, Tryd.results36, go_sem, j0, j1, j2]) rfl ?_
              exact hR.out _ _ (Gives.mk (put3_below (Ext.trans b1 (Ext.trans bk b9)) (Nat.le_refl _) _ _ _) ⟨_, _, _, _, _, _, _, rfl⟩)
          · rw [if_neg he] at HRD
            cases hgx : goodB X with
            | false =>
              have hgf : goodB (X ++ Y) = false := by
                cases h : goodB (X ++ Y) with
                | false => rfl
                | true => rw [(goodB_parts h (fun h => he (.inl h)) (fun h => he (.inr h))).1] at hgx; exact absurd hgx (by decide)
              rw [show rt = none by rw [HRD.out]; unfold frac; rw [hgf, if_neg (by decide)]] at hR
              clear HRD
              go_wp2_with fail
              refine (HI0.out _).mono ?_
              rintro e w9 ⟨_, rfl, b9, v9, rfl, o9⟩
              obtain ⟨z0, d3, n3, e3, d4, n4, e4, rfl, -⟩ := o9.op
              obtain ⟨_, _, _, j0, j1, j2, i0, i1, i2⟩ := (R1.out.ext (Ext.trans bk b9)).rm.c3
              go_wp2_with fail
              refine bodyPost_ret (v := .tuple #[.agg #[.bool z0, .slice d3 n3 e3, .slice d4 n4 e4], .bool false]) (by simp [results, Tryd.results36, go_sem, j0, j1, j2]) rfl ?_
              exact hR.out _ _ (Gives.mk (put3_below (Ext.trans b1 (Ext.trans bk b9)) (Nat.le_refl _) _ _ _) ⟨_, _, _, _, _, _, _, rfl⟩)
            | true =>
              cases hgy : goodB Y with
              | false =>
                have hgf : goodB (X ++ Y) = false := by
                  cases h : goodB (X ++ Y) with
                  | false => rfl
                  | true => rw [(goodB_parts h (fun h => he (.inl h)) (fun h => he (.inr h))).2] at hgy; exact absurd hgy (by decide)
                rw [show rt = none by rw [HRD.out]; unfold frac; rw [hgf, if_neg (by decide)]] at hR
                clear HRD
                go_wp2_with fail
                refine (HI0.out _).mono ?_
                rintro e w9 ⟨_, rfl, b9, v9, rfl, o9⟩
                obtain ⟨z0, d3, n3, e3, d4, n4, e4, rfl, -⟩ := o9.op
                obtain ⟨_, _, _, j0, j1, j2, i0, i1, i2⟩ := (R1.out.ext (Ext.trans bk b9)).rm.c3
                go_wp2_with fail
                refine bodyPost_ret (v := .tuple #[.agg #[.bool z0, .slice d3 n3 e3, .slice d4 n4 e4], .bool false]) (by simp [results, Tryd.results36, go_sem, j0, j1, j2]) rfl ?_
                exact hR.out _ _ (Gives.mk (put3_below (Ext.trans b1 (Ext.trans bk b9)) (Nat.le_refl _) _ _ _) ⟨_, _, _, _, _, _, _, rfl⟩)
              | true =>
                obtain ⟨ox, rfl⟩ := GX.out hgx
                obtain ⟨oy, rfl⟩ := GY.out hgy
                have hgf := goodB_app hgx hgy
                have h10 : 10 ^ Y.length ≠ 0 := Nat.ne_of_gt (Nat.pow_pos (by decide))
                rw [show rt = some (mkQ neg (numOf X * 10 ^ Y.length + numOf Y) (10 ^ Y.length)) by rw [HRD.out]; unfold frac; rw [hgf, if_pos rfl, if_neg h10, numOf_app, Nat.mul_comm]] at hR
                have OX := Lib.hid ox.rd
                have OY := Lib.hid oy.rd
                have B1 : (bitsOf (numOf X)).length ≤ 2000 := by have := num_bits2 hgx; have := HXL.out; omega
                have B2 : (bitsOf (numOf Y)).length ≤ 2000 := by have := num_bits2 hgy; have := HYL.out; omega
                have B3 : (bitsOf (10 ^ Y.length)).length ≤ 2000 := by have := bits_lt (pow10_bits Y.length); have := HYL.out; omega
                have B4 : (bitsOf (numOf X * 10 ^ Y.length)).length ≤ 4000 := bits_mul B1 B3
                have B5 : (bitsOf (numOf X * 10 ^ Y.length + numOf Y)).length ≤ 4001 := blen_add B4 (Nat.le_trans B2 (by decide))
                have HM1 : Hid (∀ w va vb, RdB w va (bitsOf (numOf X)) → RdB w vb (bitsOf (10 ^ Y.length)) → Calls Tryd.prog 46 #[va, vb] w (Gives w fun v' w' => OwnB 4 w.heap.size w' v' (bitsOf (numOf X * 10 ^ Y.length)))) := fun w va vb h1 h2 => r3mul_4 _ _ h1 h2 (by omega) (by omega)
                have HA3 : Hid (∀ w va vb, RdB w va (bitsOf (numOf X * 10 ^ Y.length)) → RdB w vb (bitsOf (numOf Y)) → Calls Tryd.prog 45 #[va, vb] w (Gives w fun v' w' => OwnB 4 w.heap.size w' v' (bitsOf (numOf X * 10 ^ Y.length + numOf Y)))) := fun w va vb h1 h2 => radd_4 _ _ h1 h2 (by omega) (by omega)
                have HOF : Hid (∀ w va vb, OwnB 4 0 w va (bitsOf (numOf X * 10 ^ Y.length + numOf Y)) → OwnB 4 0 w vb (bitsOf (10 ^ Y.length)) → Calls Tryd.prog 59 #[.bool neg, va, vb] w (Gives w fun v' w' => OwnP 4 0 w' v' (mkQ neg (numOf X * 10 ^ Y.length + numOf Y) (10 ^ Y.length)))) := fun w va vb h1 h2 => r5of_any (Nat.zero_le _) h1 h2 (by omega) (by omega) h10
                clear HRD ox oy B1 B2 B3 B4 B5 h10 hgf he
                generalize mkQ neg (numOf X * 10 ^ Y.length + numOf Y) (10 ^ Y.length) = q at *
                generalize numOf X * 10 ^ Y.length + numOf Y = nn at *
                generalize numOf X * 10 ^ Y.length = mm at *
                generalize 10 ^ Y.length = tt at *
                generalize (bitsOf (numOf X)).length = n1 at *
                generalize (bitsOf (numOf Y)).length = n2 at *
                go_wp2_with fail
                refine (HTN.out _).mono ?_
                rintro e w6 ⟨v6, rfl, b6, o6⟩
                go_wp2_with fail
                refine (HM1.out _ _ _ (OX.out.ext (Ext.trans b5 b6)) o6.rd).mono ?_
                rintro e w7 ⟨v7, rfl, b7, o7⟩
                go_wp2_with fail
                refine (HA3.out _ _ _ o7.rd (OY.out.ext (Ext.trans b6 b7))).mono ?_
                rintro e w8 ⟨v8, rfl, b8, o8⟩
                go_wp2_with fail
                refine (HOF.out _ _ _ (OwnB.mono o8 (Nat.zero_le _)) (OwnB.mono (o6.ext (Ext.trans b7 b8)) (Nat.zero_le _))).mono ?_
                rintro e w9 ⟨v9, rfl, b9, o9⟩
                have bk := (Ext.trans b2 (Ext.trans b3 (Ext.trans b4 (Ext.trans b5 (Ext.trans b6 (Ext.trans b7 b8))))))
                obtain ⟨z0, d3, n3, e3, d4, n4, e4, rfl, O9⟩ := o9.op
                have R10 := Lib.hid (R1.out.ext (Ext.trans bk b9))
                obtain ⟨_, _, _, j0, j1, j2, i0, i1, i2⟩ := R10.out.rm.c3
                go_wp2_with fail
                refine bodyPost_ret (v := .tuple #[.agg #[.bool z0, .slice d3 n3 e3, .slice d4 n4 e4], .bool true]) (by simp [results, Tryd.results36, go_sem, j0, j1, j2]) rfl ?_
                exact hR.out _ _ (Gives.mk (put3_below (Ext.trans b1 (Ext.trans bk b9)) (Nat.le_refl _) _ _ _) ⟨_, rfl, OwnP.putT O9.out R10.out (by decide) 0 [_, _, _]⟩)
        · rw [if_neg h46] at HRD
          simp only [if_neg h46] at HA2
          clear h46
          have HX : Hid (∀ w, Calls Tryd.prog 14 #[.string (strOf T)] w (Gives w fun v' w' => R4 w.heap.size w' v' T)) := fun w => r4p_all HTF.out (by have := HTL.out; omega)
          have hTl := HTL.out
          generalize strOf T = ST at *
          go_wp2_with fail
          refine (HA1.out _).mono ?_
          rintro e w2 ⟨_, rfl, b2, rfl⟩
          go_wp2_with fail
          refine (HA2.out _).mono ?_
          rintro e w3 ⟨_, rfl, b3, rfl⟩
          go_wp2_with fail
          refine (HX.out _).mono ?_
          rintro e w4 ⟨_, rfl, b4, ax, lx, cx, rfl, hX⟩
          have GX := Lib.hid hX
          have bk := (Ext.trans b2 (Ext.trans b3 b4))
          clear hX
          cases hgx : goodB T with
          | false =>
            rw [show rt = none by rw [HRD.out]; unfold frac; rw [hgx, if_neg (by decide)]] at hR
            clear HRD
            go_wp2_with fail
            refine (HI0.out _).mono ?_
            rintro e w9 ⟨_, rfl, b9, v9, rfl, o9⟩
            obtain ⟨z0, d3, n3, e3, d4, n4, e4, rfl, -⟩ := o9.op
            obtain ⟨_, _, _, j0, j1, j2, i0, i1, i2⟩ := (R1.out.ext (Ext.trans bk b9)).rm.c3
            go_wp2_with fail
            refine bodyPost_ret (v := .tuple #[.agg #[.bool z0, .slice d3 n3 e3, .slice d4 n4 e4], .bool false]) (by simp [results, Tryd.results36, go_sem, j0, j1, j2]) rfl ?_
            exact hR.out _ _ (Gives.mk (put3_below (Ext.trans b1 (Ext.trans bk b9)) (Nat.le_refl _) _ _ _) ⟨_, _, _, _, _, _, _, rfl⟩)
          | true =>
            obtain ⟨ox, rfl⟩ := GX.out hgx
            rw [show rt = some (mkQ neg (numOf T) 1) by rw [HRD.out]; unfold frac; rw [hgx, if_pos rfl, if_neg (by decide)]] at hR
            have OX := Lib.hid ox
            have B1 : (bitsOf (numOf T)).length ≤ 2000 := by have := num_bits2 hgx; omega
            have HW1 : Hid (∀ w, Calls Tryd.prog 47 #[.int .u64 1] w (Gives w fun v' w' => OwnB 4 w.heap.size w' v' (bitsOf 1))) := fun w => word_4 1 rfl (by decide)
            have HOF : Hid (∀ w va vb, OwnB 4 0 w va (bitsOf (numOf T)) → OwnB 4 0 w vb (bitsOf 1) → Calls Tryd.prog 59 #[.bool neg, va, vb] w (Gives w fun v' w' => OwnP 4 0 w' v' (mkQ neg (numOf T) 1))) := fun w va vb h1 h2 => r5of_any (Nat.zero_le _) h1 h2 (by omega) (by have := (bitsOf_len 1 1).2 (by decide); omega) (by decide)
            clear HRD ox B1
            generalize mkQ neg (numOf T) 1 = q at *
            generalize (bitsOf (numOf T)).length = n1 at *
            go_wp2_with fail
            refine (HW1.out _).mono ?_
            rintro e w8 ⟨v8, rfl, b8, o8⟩
            go_wp2_with fail
            refine (HOF.out _ _ _ (OwnB.mono (OX.out.ext b8) (Nat.zero_le _)) (OwnB.mono o8 (Nat.zero_le _))).mono ?_
            rintro e w9 ⟨v9, rfl, b9, o9⟩
            have bk := Ext.trans bk b8
            obtain ⟨z0, d3, n3, e3, d4, n4, e4, rfl, O9⟩ := o9.op
            have R10 := Lib.hid (R1.out.ext (Ext.trans bk b9))
            obtain ⟨_, _, _, j0, j1, j2, i0, i1, i2⟩ := R10.out.rm.c3
            go_wp2_with fail
            refine bodyPost_ret (v := .tuple #[.agg #[.bool z0, .slice d3 n3 e3, .slice d4 n4 e4], .bool true]) (by simp [results, Tryd.results36, go_sem, j0, j1, j2]) rfl ?_
            exact hR.out _ _ (Gives.mk (put3_below (Ext.trans b1 (Ext.trans bk b9)) (Nat.le_refl _) _ _ _) ⟨_, rfl, OwnP.putT O9.out R10.out (by decide) 0 [_, _, _]⟩)
end Go.Proofs.YtgajpmcjjefghaaDoor
