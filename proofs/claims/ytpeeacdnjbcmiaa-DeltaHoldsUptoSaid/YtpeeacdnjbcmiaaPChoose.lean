/- delta.Choose -/
import Derived.Test.YtpeeacdnjbcmiaaBq
import Derived.Test.YtpeeacdnjbcmiaaPDelta
import Derived.Test.YtpeeacdnjbcmiaaPRatDiv
import Derived.Test.YtpeeacdnjbcmiaaPRatFrac
import Derived.Test.YtpeeacdnjbcmiaaPRatMin
namespace Go.Proofs.Ytpeeacdnjbcmiaa
open Go.RowKit Go.Att

/-- The lesser one. -/
def lst (x y : Rat) : Rat := if (x - y).num.sign ≤ 0 then x else y
/-- The choice, pair by pair. -/
def chz : List ((Rat × Rat) × (Rat × Rat)) → Rat → Option Rat
  | [], m => some m
  | z :: r, m => if 0 < cmpD z.1.1 z.1.2 z.2.1 z.2.2 then none else if (z.1.2 - z.2.2).num.sign ≤ 0 then chz r m else chz r (lst m ((z.2.1 - z.1.1) / (z.1.2 - z.2.2)))
theorem chz_cons (z : (Rat × Rat) × (Rat × Rat)) (r : List ((Rat × Rat) × (Rat × Rat))) (m : Rat) : chz (z :: r) m = if 0 < cmpD z.1.1 z.1.2 z.2.1 z.2.2 then none else if (z.1.2 - z.2.2).num.sign ≤ 0 then chz r m else chz r (lst m ((z.2.1 - z.1.1) / (z.1.2 - z.2.2))) := rfl
def cho (A B : List (Rat × Rat)) : Option Rat := if A.length = B.length then chz (A.zip B) 1 else none
/-- What the program answers. -/
def ChR (w : World) (v : Value) : Option Rat → Prop
  | some m => ∃ o, v = .tuple #[o, .int .i64 0] ∧ OwnQ 148 0 w o m ∧ Sz 50 m
  | none => v = .tuple #[.agg #[.bool false, .slice none 0 0, .slice none 0 0], .int .i64 4]
/-- v is a number, and true. -/
def Wq (w : World) (v : Value) (q : Rat) : Prop := ∃ o, v = .tuple #[o, .bool true] ∧ OwnQ 148 0 w o q
theorem Wq.ext {w w' : World} {v : Value} {q : Rat} (h : Wq w v q) (x : Ext w w') : Wq w' v q := by
  obtain ⟨o, rfl, h⟩ := h
  exact ⟨o, rfl, h.ext x⟩
abbrev BQ (w : World) (b : Nat) (q : Rat) : Prop := Bq 148 28 w b q
set_option maxHeartbeats 4000000 in
set_option linter.unusedSimpArgs false in
theorem choose_any {w : World} {v0 v1 : Value} {A B : List (Rat × Rat)} (hv0 : RdRow 6 (OwnDp 148) w v0 A) (hv1 : RdRow 6 (OwnDp 148) w v1 B) (s0 : ∀ p ∈ A, Sz 8 p.1 ∧ Sz 8 p.2) (s1 : ∀ p ∈ B, Sz 8 p.1 ∧ Sz 8 p.2) :
    Calls Try.prog 58 #[v0, v1] w (Gives w fun v' w' => ChR w' v' (cho A B)) := by
  refine via fun R hR => ?_
  have HV0 := Lib.hid hv0
  have HV1 := Lib.hid hv1
  have S0 := Lib.hid s0
  have S1 := Lib.hid s1
  obtain ⟨a0, c0, rfl, hlc0, hcm0⟩ := hv0.shape
  obtain ⟨a1, c1, rfl, hlc1, hcm1⟩ := hv1.shape
  unfold maxLen at hcm0 hcm1
  clear hv0 hv1 s0 s1
  unfold cho at hR
  by_cases hlen : A.length = B.length
  · rw [if_pos hlen] at hR
    have HLEN := Lib.hid hlen
    have h1 : ((A.length : Int) != (B.length : Int)) = false := by rw [hlen]; exact bne_self_eq_false _
    clear hlen
    have HLZ : Hid ((A.zip B).length = A.length) := by show _ = _; rw [List.length_zip, ← HLEN.out]; exact Nat.min_self _
    obtain ⟨w1, hw1, b1, -, r1, -⟩ := bx1 w [.bool false, .slice none 0 0, .slice none 0 0] 28
    have HW := Lib.hid hw1
    have R1 : Hid (Rt w1 w.heap.size 3 28) := by show Rt _ _ _ _; rw [hw1]; exact Rt.new w [_, _, _] _
    clear hw1 r1
    go_enter Try.func58, Try.ntmps58
    go_upto_region 3 with (fail)
    rw [← HW.out]
    clear HW h1
    go_wp2_with fail
    refine (rint_any (u := 1) (by omega)).mono ?_
    rintro e w2 ⟨v2, rfl, b2, o2⟩
    obtain ⟨t0, d1, n1, e1, d2, n2, e2, rfl, O2⟩ := o2.op
    clear o2
    go_wp2_with fail
    go_loopw [21] (fun i wr => ∃ (k : Nat) (m : Rat), i = .int .i64 k ∧ k ≤ A.length ∧ Ext w2 wr ∧ Hid (BQ wr w2.heap.size m) ∧ Hid (Sz 50 m) ∧ Hid (chz ((A.zip B).drop k) m = chz (A.zip B) 1)) (fun i _ => A.length - (intOf i).toNat)
    case atStart => exact ⟨0, 1, rfl, Nat.zero_le _, Ext.alloc _ _, Bq.new (O2.out.mono (Nat.zero_le _)), (Sz.int 1 (by omega)).le (by decide), rfl⟩
    case round =>
      obtain ⟨k, m, rfl, hk, hx, hB, hS, hC⟩ := hrel
      have b4 := hx
      have b04 := Ext.trans b1 (Ext.trans b2 b4)
      generalize wr = w4 at *
      by_cases hlt : k < A.length
      · have hltm : k < B.length := by have := HLEN.out; omega
        obtain ⟨b, off, cs, rfl, hcl, hT, hc⟩ := HV0.out.at (by decide) k hlt
        obtain ⟨b', off', cs', rfl, hcl', hT', hc'⟩ := HV1.out.at (by decide) k hltm
        have hz : k < (A.zip B).length := by rw [HLZ.out]; exact hlt
        have hC2 := hC.out
        rw [List.drop_eq_getElem_cons hz, List.getElem_zip, chz_cons] at hC2
        have HC := Lib.hid hC2
        have S2 := Lib.hid (S0.out _ (List.getElem_mem hlt))
        have S3 := Lib.hid (S1.out _ (List.getElem_mem hltm))
        have HA : Hid (OwnD 148 0 w (.agg cs.toArray) A[k].1 A[k].2) := hT
        have HB : Hid (OwnD 148 0 w (.agg cs'.toArray) B[k].1 B[k].2) := hT'
        have KA : Hid (Bo w b (off + k * 6) cs) := Bo.of hc hcl
        have KB : Hid (Bo w b' (off' + k * 6) cs') := Bo.of hc' hcl'
        generalize A[k] = p at *
        generalize B[k] = y at *
        obtain ⟨g0, d3, n3, e3, d4, n4, e4, g1, d5, n5, e5, d6, n6, e6, hsa, -⟩ := RdD.op HA.out.rd
        obtain ⟨g2, d7, n7, e7, d8, n8, e8, g3, d9, n9, e9, d10, n10, e10, hsb, -⟩ := RdD.op HB.out.rd
        obtain rfl : cs = [.bool g0, .slice d3 n3 e3, .slice d4 n4 e4, .bool g1, .slice d5 n5 e5, .slice d6 n6 e6] := by simpa using hsa
        obtain rfl : cs' = [.bool g2, .slice d7 n7 e7, .slice d8 n8 e8, .bool g3, .slice d9 n9 e9, .slice d10 n10 e10] := by simpa using hsb
        clear hT hT' hc hc' hcl hcl' hsa hsb hC hC2
        obtain ⟨w5, hw5, b5, c5, d5', -, -, -⟩ := bx2 w4 [.bool g0, .slice d3 n3 e3, .slice d4 n4 e4, .bool g1, .slice d5 n5 e5, .slice d6 n6 e6] [.bool g2, .slice d7 n7 e7, .slice d8 n8 e8, .bool g3, .slice d9 n9 e9, .slice d10 n10 e10] 30 30
        have HW := Lib.hid hw5
        have C5 := Lib.hid c5
        have D5 := Lib.hid d5'
        obtain ⟨u0, u1, u2, u3, u4, u5⟩ := (Bo.ext KA.out b04).c6
        obtain ⟨q0, q1, q2, q3, q4, q5⟩ := (Bo.ext KB.out (Ext.trans b04 (Ext.alloc w4 (.cells #[.bool g0, .slice d3 n3 e3, .slice d4 n4 e4, .bool g1, .slice d5 n5 e5, .slice d6 n6 e6] 30)))).c6
        clear hw5 c5 d5'
        go_upto_region 8 with (fail)
        rw [← HW.out]
        clear HW u0 u1 u2 u3 u4 u5 q0 q1 q2 q3 q4 q5
        have b05 := Ext.trans b04 b5
        obtain ⟨u0, u1, u2, u3, u4, u5⟩ := C5.out.c6
        obtain ⟨q0, q1, q2, q3, q4, q5⟩ := D5.out.c6
        go_wp2_with fail
        refine (dcmp_any (HA.out.rd.ext b05) (HB.out.rd.ext b05) (S2.out.1.le (by decide)) (S2.out.2.le (by decide)) (S3.out.1.le (by decide)) (S3.out.2.le (by decide))).mono ?_
        rintro e w6 ⟨_, rfl, b6, rfl⟩
        clear u0 u1 u2 u3 u4 u5 q0 q1 q2 q3 q4 q5
        have HSG : Hid (∀ w va vb, RdQ w va p.2 → RdQ w vb y.2 → Calls Try.prog 46 #[va, vb] w (Gives w fun v' _ => v' = .int .i64 (p.2 - y.2).num.sign)) := fun w va vb h1 h2 => rcmp_any h1 h2 (S2.out.2.le (by decide)) (S3.out.2.le (by decide))
        have HNZ : Hid (0 < (p.2 - y.2).num.sign → (p.2 - y.2).num ≠ 0) := fun h h2 => by rw [h2] at h; exact absurd h (by decide)
        generalize cmpD p.1 p.2 y.1 y.2 = t at *
        generalize (p.2 - y.2).num.sign = sg at *
        by_cases ht : 0 < t
        · have hC : none = chz (A.zip B) 1 := by have := HC.out; rwa [if_pos ht] at this
          have htd : decide (0 < t) = true := decide_eq_true ht
          obtain ⟨_, _, _, j0, j1, j2, i0, i1, i2⟩ := (R1.out.ext (Ext.trans b2 (Ext.trans b4 (Ext.trans b5 b6)))).rm.c3
          clear ht HC
          rw [← hC] at hR
          clear hC
          go_wp2_with fail
          refine bodyPost_ret (v := .tuple #[.agg #[.bool false, .slice none 0 0, .slice none 0 0], .int .i64 4]) (by simp [results, Try.results58, go_sem, j0, j1, j2]) rfl ?_
          exact hR.out _ _ (Gives.mk (put3_below (Ext.trans b05 b6) (Nat.le_refl _) _ _ _) rfl)
        · have HC1 : Hid ((if sg ≤ 0 then chz ((A.zip B).drop (k + 1)) m else chz ((A.zip B).drop (k + 1)) (lst m ((y.1 - p.1) / (p.2 - y.2)))) = chz (A.zip B) 1) := by have := HC.out; rwa [if_neg ht] at this
          have htd : decide (0 < t) = false := decide_eq_false ht
          obtain ⟨u0, u1, u2, u3, u4, u5⟩ := (C5.out.ext b6).c6
          obtain ⟨q0, q1, q2, q3, q4, q5⟩ := (D5.out.ext b6).c6
          clear ht HC
          go_wp2_with fail
          clear u0 u1 u2 u3 u4 u5 q0 q1 q2 q3 q4 q5
          refine (HSG.out _ _ _ (RdD.snd3 (HA.out.rd.ext (Ext.trans b05 b6))) (RdD.snd3 (HB.out.rd.ext (Ext.trans b05 b6)))).mono ?_
          rintro e w7 ⟨_, rfl, b7, rfl⟩
          by_cases hs : sg ≤ 0
          · have HC2 : Hid (chz ((A.zip B).drop (k + 1)) m = chz (A.zip B) 1) := by have := HC1.out; rwa [if_pos hs] at this
            have hsd : decide (sg ≤ 0) = true := decide_eq_true hs
            clear hs
            go_wp2_with fail
            go_roundw
            case rel => exact ⟨k + 1, m, by go_num, by omega, Ext.trans b4 (Ext.trans b5 (Ext.trans b6 b7)), hB.out.ext (Ext.trans b5 (Ext.trans b6 b7)), hS, HC2⟩
            case measure => simp [intOf] <;> omega
          · have HC2 : Hid (chz ((A.zip B).drop (k + 1)) (lst m ((y.1 - p.1) / (p.2 - y.2))) = chz (A.zip B) 1) := by have := HC1.out; rwa [if_neg hs] at this
            have HN0 := Lib.hid (HNZ.out (Int.not_le.1 hs))
            have hsd : decide (sg ≤ 0) = false := decide_eq_false hs
            clear hs HC1
            have QA1 : Hid (RdQ w7 (.agg #[.bool g0, .slice d3 n3 e3, .slice d4 n4 e4]) p.1) := RdD.fst3 (HA.out.rd.ext (Ext.trans b05 (Ext.trans b6 b7)))
            have QA2 : Hid (RdQ w7 (.agg #[.bool g1, .slice d5 n5 e5, .slice d6 n6 e6]) p.2) := RdD.snd3 (HA.out.rd.ext (Ext.trans b05 (Ext.trans b6 b7)))
            have QB1 : Hid (RdQ w7 (.agg #[.bool g2, .slice d7 n7 e7, .slice d8 n8 e8]) y.1) := RdD.fst3 (HB.out.rd.ext (Ext.trans b05 (Ext.trans b6 b7)))
            have QB2 : Hid (RdQ w7 (.agg #[.bool g3, .slice d9 n9 e9, .slice d10 n10 e10]) y.2) := RdD.snd3 (HB.out.rd.ext (Ext.trans b05 (Ext.trans b6 b7)))
            have C7 := Lib.hid (C5.out.ext (Ext.trans b6 b7))
            have D7 := Lib.hid (D5.out.ext (Ext.trans b6 b7))
            have SZC : Hid (w4.heap.size < w7.heap.size) := World.block_lt_of_cell? _ _ C7.out.c6.1
            have SZD : Hid (w4.heap.size + 1 < w7.heap.size) := World.block_lt_of_cell? _ _ D7.out.c6.1
            have HSB1 : Hid (∀ w va vb, RdQ w va y.1 → RdQ w vb p.1 → Calls Try.prog 105 #[va, vb] w (Gives w fun v' w' => OwnQ 148 0 w' v' (y.1 - p.1))) := fun w va vb h1 h2 => (rsub_any h1 h2 (S3.out.1.le (by decide)) (S2.out.1.le (by decide))).mono fun _ _ ⟨v, e, b, o⟩ => ⟨v, e, b, o.mono (Nat.zero_le _)⟩
            have HSB2 : Hid (∀ w va vb, RdQ w va p.2 → RdQ w vb y.2 → Calls Try.prog 105 #[va, vb] w (Gives w fun v' w' => OwnQ 148 0 w' v' (p.2 - y.2))) := fun w va vb h1 h2 => (rsub_any h1 h2 (S2.out.2.le (by decide)) (S3.out.2.le (by decide))).mono fun _ _ ⟨v, e, b, o⟩ => ⟨v, e, b, o.mono (Nat.zero_le _)⟩
            have z1 : Sz 17 (y.1 - p.1) := by rw [Rat.sub_eq_add_neg]; exact (S3.out.1.add S2.out.1.neg)
            have z2 : Sz 17 (p.2 - y.2) := by rw [Rat.sub_eq_add_neg]; exact (S2.out.2.add S3.out.2.neg)
            have HDV : Hid (∀ w va vb, OwnQ 148 0 w va (y.1 - p.1) → OwnQ 148 0 w vb (p.2 - y.2) → Calls Try.prog 106 #[va, vb] w (Gives w fun v' w' => Wq w' v' ((y.1 - p.1) / (p.2 - y.2)))) := fun w va vb h1 h2 => (rdiv_any h1.rd h2.rd (z1.le (by decide)) (z2.le (by decide)) HN0.out).mono fun _ _ ⟨v, e, b, o, e2, h⟩ => ⟨v, e, b, o, e2, h.mono (Nat.zero_le _)⟩
            have SQ : Hid (Sz 50 ((y.1 - p.1) / (p.2 - y.2))) := by
              show Sz _ _
              rw [Rat.div_def]
              exact (z1.mul z2.inv).le (by decide)
            generalize (y.1 - p.1) / (p.2 - y.2) = dq at *
            generalize y.1 - p.1 = f1 at *
            generalize p.2 - y.2 = f2 at *
            clear z1 z2
            go_upto_region 11 with (fail)
            go_cut [10] (fun s10 wx => ∃ E, s10 = .pointer (some ⟨E, 0, none⟩) ∧ Ext w7 wx ∧ Hid (BQ wx E dq))
            case first =>
              refine wp_region_noPanic ?_
              refine wp_region_held_drew (S := fun w' => (w'.cell? ⟨w4.heap.size, 0, none⟩ = some (.bool g0) ∧ w'.cell? ⟨w4.heap.size, 1, none⟩ = some (.slice d3 n3 e3) ∧ w'.cell? ⟨w4.heap.size, 2, none⟩ = some (.slice d4 n4 e4) ∧ w'.cell? ⟨w4.heap.size, 3, none⟩ = some (.bool g1) ∧ w'.cell? ⟨w4.heap.size, 4, none⟩ = some (.slice d5 n5 e5) ∧ w'.cell? ⟨w4.heap.size, 5, none⟩ = some (.slice d6 n6 e6)) ∧ (w'.cell? ⟨w4.heap.size + 1, 0, none⟩ = some (.bool g2) ∧ w'.cell? ⟨w4.heap.size + 1, 1, none⟩ = some (.slice d7 n7 e7) ∧ w'.cell? ⟨w4.heap.size + 1, 2, none⟩ = some (.slice d8 n8 e8) ∧ w'.cell? ⟨w4.heap.size + 1, 3, none⟩ = some (.bool g3) ∧ w'.cell? ⟨w4.heap.size + 1, 4, none⟩ = some (.slice d9 n9 e9) ∧ w'.cell? ⟨w4.heap.size + 1, 5, none⟩ = some (.slice d10 n10 e10))) (by kernel_rfl) (⟨(C7.out.ext (drew_ext w7)).c6, (D7.out.ext (drew_ext w7)).c6⟩) (fun hHeld => ?_)
              refine wpAnyH_take (i := 0) (v := ?_) rfl (by kernel_rfl) (by kernel_rfl) (by kernel_rfl) (fun _ _ _ h => h) (Or.inl ⟨by rfl, fun w0 hSw => ?_⟩) hHeld ?_
              rotate_left
              · (try dsimp only at hSw)
                go_simp
                try with_reducible rfl
              simp only [Act.put, List.getElem_toArray, List.getElem_cons_succ, List.getElem_cons_zero, List.setIfInBounds_toArray, List.set_cons_zero, List.set_cons_succ]
              refine wpAnyH_take (i := 2) (v := ?_) rfl (by kernel_rfl) (by kernel_rfl) (by kernel_rfl) (fun _ _ _ h => h) (Or.inl ⟨by rfl, fun w0 hSw => ?_⟩) hHeld ?_
              rotate_left
              · (try dsimp only at hSw)
                go_simp
                try with_reducible rfl
              simp only [Act.put, List.getElem_toArray, List.getElem_cons_succ, List.getElem_cons_zero, List.setIfInBounds_toArray, List.set_cons_zero, List.set_cons_succ]
              refine wpAnyH_take (i := 5) (v := ?_) rfl (by kernel_rfl) (by kernel_rfl) (by kernel_rfl) (fun _ _ _ h => h) (Or.inl ⟨by rfl, fun w0 hSw => ?_⟩) hHeld ?_
              rotate_left
              · (try dsimp only at hSw)
                go_simp
                try with_reducible rfl
              simp only [Act.put, List.getElem_toArray, List.getElem_cons_succ, List.getElem_cons_zero, List.setIfInBounds_toArray, List.set_cons_zero, List.set_cons_succ]
              refine wpAnyH_take (i := 7) (v := ?_) rfl (by kernel_rfl) (by kernel_rfl) (by kernel_rfl) (fun _ _ _ h => h) (Or.inl ⟨by rfl, fun w0 hSw => ?_⟩) hHeld ?_
              rotate_left
              · (try dsimp only at hSw)
                go_simp
                try with_reducible rfl
              simp only [Act.put, List.getElem_toArray, List.getElem_cons_succ, List.getElem_cons_zero, List.setIfInBounds_toArray, List.set_cons_zero, List.set_cons_succ]
              refine wpAnyH_take (i := 1) (v := ?_) rfl (by kernel_rfl) (by kernel_rfl) (by kernel_rfl) (fun _ _ _ h => h) (Or.inl ⟨by rfl, fun w0 hSw => ?_⟩) hHeld ?_
              rotate_left
              · (try dsimp only at hSw)
                go_simp
                try with_reducible rfl
              simp only [Act.put, List.getElem_toArray, List.getElem_cons_succ, List.getElem_cons_zero, List.setIfInBounds_toArray, List.set_cons_zero, List.set_cons_succ]
              refine wpAnyH_take (i := 3) (v := ?_) rfl (by kernel_rfl) (by kernel_rfl) (by kernel_rfl) (fun _ _ _ h => h) (Or.inl ⟨by rfl, fun w0 hSw => ?_⟩) hHeld ?_
              rotate_left
              · (try dsimp only at hSw)
                go_simp
                try with_reducible rfl
              simp only [Act.put, List.getElem_toArray, List.getElem_cons_succ, List.getElem_cons_zero, List.setIfInBounds_toArray, List.set_cons_zero, List.set_cons_succ]
              refine wpAnyH_take (i := 6) (v := ?_) rfl (by kernel_rfl) (by kernel_rfl) (by kernel_rfl) (fun _ _ _ h => h) (Or.inl ⟨by rfl, fun w0 hSw => ?_⟩) hHeld ?_
              rotate_left
              · (try dsimp only at hSw)
                go_simp
                try with_reducible rfl
              simp only [Act.put, List.getElem_toArray, List.getElem_cons_succ, List.getElem_cons_zero, List.setIfInBounds_toArray, List.set_cons_zero, List.set_cons_succ]
              refine wpAnyH_take (i := 8) (v := ?_) rfl (by kernel_rfl) (by kernel_rfl) (by kernel_rfl) (fun _ _ _ h => h) (Or.inl ⟨by rfl, fun w0 hSw => ?_⟩) hHeld ?_
              rotate_left
              · (try dsimp only at hSw)
                go_simp
                try with_reducible rfl
              simp only [Act.put, List.getElem_toArray, List.getElem_cons_succ, List.getElem_cons_zero, List.setIfInBounds_toArray, List.set_cons_zero, List.set_cons_succ]
              refine anyH_cap fun O Q9 AA hO hQ hA => ?_
              obtain ⟨SS, hSS⟩ : ∃ SS : World → Prop, Hid (SS = fun w' => (w'.cell? ⟨w4.heap.size, 0, none⟩ = some (.bool g0) ∧ w'.cell? ⟨w4.heap.size, 1, none⟩ = some (.slice d3 n3 e3) ∧ w'.cell? ⟨w4.heap.size, 2, none⟩ = some (.slice d4 n4 e4) ∧ w'.cell? ⟨w4.heap.size, 3, none⟩ = some (.bool g1) ∧ w'.cell? ⟨w4.heap.size, 4, none⟩ = some (.slice d5 n5 e5) ∧ w'.cell? ⟨w4.heap.size, 5, none⟩ = some (.slice d6 n6 e6)) ∧ (w'.cell? ⟨w4.heap.size + 1, 0, none⟩ = some (.bool g2) ∧ w'.cell? ⟨w4.heap.size + 1, 1, none⟩ = some (.slice d7 n7 e7) ∧ w'.cell? ⟨w4.heap.size + 1, 2, none⟩ = some (.slice d8 n8 e8) ∧ w'.cell? ⟨w4.heap.size + 1, 3, none⟩ = some (.bool g3) ∧ w'.cell? ⟨w4.heap.size + 1, 4, none⟩ = some (.slice d9 n9 e9) ∧ w'.cell? ⟨w4.heap.size + 1, 5, none⟩ = some (.slice d10 n10 e10))) := ⟨_, rfl⟩
              have KP : Hid (∀ wv, Ext w7 wv → SS wv) := fun wv XE => by rw [hSS.out]; exact ⟨(C7.out.ext XE).c6, (D7.out.ext XE).c6⟩
              have L6_14 : ∀ (wv : World) (v4 v9 v10 v11 v12 v13 : Value) (B14 : Nat), Hid (Ext w7 wv) → Hid (OwnQ 148 0 wv v4 f1) → Hid (OwnQ 148 0 wv v9 f2) → Hid (Wq wv v10 dq) → Hid (Wq wv v11 dq) → Hid (Wq wv (.tuple #[v12, .bool true]) dq) → Hid (Wq wv (.tuple #[v12, v13]) dq) → Hid (Rt wv B14 3 28) → Hid (w7.heap.size ≤ B14) → wpAnyH Try.prog .any O Q9 SS 2 #[true, true, true, true, true, true, true, true, true, true, true, true, true, true, true, false, false] (((((((AA.put (some 46) v4).put (some 51) v9).put (some 52) v10).put (some 41) v11).put (some 53) v12).put (some 54) v13).put (some 10) (.pointer (some ⟨B14, 0, none⟩))) wv := by
                intro wv v4 v9 v10 v11 v12 v13 B14 hX p4 p9 p10 p11 p12 p13 r14 s14
                have hO1 := hO.out
                have hQ1 := hQ.out
                have hA1 := hA.out
                subst hO1
                subst hQ1
                subst hA1
                have XE := hX.out
                have hS1 := hSS.out
                subst hS1
                have hHeld : (fun w' => (w'.cell? ⟨w4.heap.size, 0, none⟩ = some (.bool g0) ∧ w'.cell? ⟨w4.heap.size, 1, none⟩ = some (.slice d3 n3 e3) ∧ w'.cell? ⟨w4.heap.size, 2, none⟩ = some (.slice d4 n4 e4) ∧ w'.cell? ⟨w4.heap.size, 3, none⟩ = some (.bool g1) ∧ w'.cell? ⟨w4.heap.size, 4, none⟩ = some (.slice d5 n5 e5) ∧ w'.cell? ⟨w4.heap.size, 5, none⟩ = some (.slice d6 n6 e6)) ∧ (w'.cell? ⟨w4.heap.size + 1, 0, none⟩ = some (.bool g2) ∧ w'.cell? ⟨w4.heap.size + 1, 1, none⟩ = some (.slice d7 n7 e7) ∧ w'.cell? ⟨w4.heap.size + 1, 2, none⟩ = some (.slice d8 n8 e8) ∧ w'.cell? ⟨w4.heap.size + 1, 3, none⟩ = some (.bool g3) ∧ w'.cell? ⟨w4.heap.size + 1, 4, none⟩ = some (.slice d9 n9 e9) ∧ w'.cell? ⟨w4.heap.size + 1, 5, none⟩ = some (.slice d10 n10 e10))) wv := ⟨(C7.out.ext XE).c6, (D7.out.ext XE).c6⟩
                try simp only [Act.put, List.getElem_toArray, List.getElem_cons_succ, List.getElem_cons_zero, List.setIfInBounds_toArray, List.set_cons_zero, List.set_cons_succ]
                have k0_14 : w4.heap.size ≠ B14 := by have h1 := s14.out; have hz0 := SZC.out; have hz1 := SZD.out; omega
                have k1_14 : w4.heap.size + 1 ≠ B14 := by have h1 := s14.out; have hz0 := SZC.out; have hz1 := SZD.out; omega
                obtain ⟨_, _, _, i14_0, i14_1, i14_2, f14_0, f14_1, f14_2⟩ := r14.out.rm.c3
                obtain ⟨o7, he7, oo7⟩ := p13.out
                obtain ⟨rfl, rfl⟩ : v12 = o7 ∧ v13 = .bool true := by simpa using he7
                obtain ⟨_, _, _, _, _, _, _, rfl, OO⟩ := oo7.op
                refine wpAnyH_ready (rs := [15]) (by kernel_rfl) (by simp) ?_
                refine AllReadyH.cons (o := _) rfl (fun K hK => ?_) AllReadyH.nil
                go_simp
                refine hK.out _ _ (⟨((C7.out.ext XE).putL k0_14 0 [_, _, _]).c6, ((D7.out.ext XE).putL k1_14 0 [_, _, _]).c6⟩) (fun hHeld => ?_)
                clear hK K
                try simp only [Act.put, List.getElem_toArray, List.getElem_cons_succ, List.getElem_cons_zero, List.setIfInBounds_toArray, List.set_cons_zero, List.set_cons_succ]
                refine wpAnyH_take (i := 16) (v := ?_) rfl (by kernel_rfl) (by kernel_rfl) (by kernel_rfl) (fun _ _ _ h => h) (Or.inl ⟨by rfl, fun w0 hSw => ?_⟩) hHeld ?_
                rotate_left
                · (try dsimp only at hSw)
                  go_simp
                  try with_reducible rfl
                simp only [Act.put, List.getElem_toArray, List.getElem_cons_succ, List.getElem_cons_zero, List.setIfInBounds_toArray, List.set_cons_zero, List.set_cons_succ]
                refine wpAnyH_done (by kernel_rfl) ?_ _
                refine NoPanic.normal ?_
                go_wp2_with fail
                go_meet
                exact ⟨B14, rfl, put3_below hX.out s14.out _ _ _, Bq.set r14.out (by decide) OO.out⟩
              have L5_14 : ∀ (wv : World) (v4 v9 v10 v11 v12 : Value) (B14 : Nat), Hid (Ext w7 wv) → Hid (OwnQ 148 0 wv v4 f1) → Hid (OwnQ 148 0 wv v9 f2) → Hid (Wq wv v10 dq) → Hid (Wq wv v11 dq) → Hid (Wq wv (.tuple #[v12, .bool true]) dq) → Hid (Rt wv B14 3 28) → Hid (w7.heap.size ≤ B14) → wpAnyH Try.prog .any O Q9 SS 3 #[true, true, true, true, true, true, true, true, true, true, true, true, true, false, true, false, false] ((((((AA.put (some 46) v4).put (some 51) v9).put (some 52) v10).put (some 41) v11).put (some 53) v12).put (some 10) (.pointer (some ⟨B14, 0, none⟩))) wv := by
                intro wv v4 v9 v10 v11 v12 B14 hX p4 p9 p10 p11 p12 r14 s14
                have hO1 := hO.out
                have hQ1 := hQ.out
                have hA1 := hA.out
                subst hO1
                subst hQ1
                subst hA1
                have XE := hX.out
                have hS1 := hSS.out
                subst hS1
                have hHeld : (fun w' => (w'.cell? ⟨w4.heap.size, 0, none⟩ = some (.bool g0) ∧ w'.cell? ⟨w4.heap.size, 1, none⟩ = some (.slice d3 n3 e3) ∧ w'.cell? ⟨w4.heap.size, 2, none⟩ = some (.slice d4 n4 e4) ∧ w'.cell? ⟨w4.heap.size, 3, none⟩ = some (.bool g1) ∧ w'.cell? ⟨w4.heap.size, 4, none⟩ = some (.slice d5 n5 e5) ∧ w'.cell? ⟨w4.heap.size, 5, none⟩ = some (.slice d6 n6 e6)) ∧ (w'.cell? ⟨w4.heap.size + 1, 0, none⟩ = some (.bool g2) ∧ w'.cell? ⟨w4.heap.size + 1, 1, none⟩ = some (.slice d7 n7 e7) ∧ w'.cell? ⟨w4.heap.size + 1, 2, none⟩ = some (.slice d8 n8 e8) ∧ w'.cell? ⟨w4.heap.size + 1, 3, none⟩ = some (.bool g3) ∧ w'.cell? ⟨w4.heap.size + 1, 4, none⟩ = some (.slice d9 n9 e9) ∧ w'.cell? ⟨w4.heap.size + 1, 5, none⟩ = some (.slice d10 n10 e10))) wv := ⟨(C7.out.ext XE).c6, (D7.out.ext XE).c6⟩
                try simp only [Act.put, List.getElem_toArray, List.getElem_cons_succ, List.getElem_cons_zero, List.setIfInBounds_toArray, List.set_cons_zero, List.set_cons_succ]
                obtain ⟨o7, rfl, oo7⟩ := p11.out
                refine wpAnyH_take (i := 13) (v := ?_) rfl (by kernel_rfl) (by kernel_rfl) (by kernel_rfl) (fun _ _ _ h => h) (Or.inl ⟨by rfl, fun w0 hSw => ?_⟩) hHeld ?_
                rotate_left
                · (try dsimp only at hSw)
                  go_simp
                  try with_reducible rfl
                simp only [Act.put, List.getElem_toArray, List.getElem_cons_succ, List.getElem_cons_zero, List.setIfInBounds_toArray, List.set_cons_zero, List.set_cons_succ]
                exact wpAnyH_at (L6_14 wv _ _ _ _ _ _ B14 hX.out p4.out p9.out p10.out p11.out p12.out (p12.out) r14.out s14.out) (by kernel_rfl) (by kernel_rfl) (by kernel_rfl)
              have L6_ : ∀ (wv : World) (v4 v9 v10 v11 v12 v13 : Value), Hid (Ext w7 wv) → Hid (OwnQ 148 0 wv v4 f1) → Hid (OwnQ 148 0 wv v9 f2) → Hid (Wq wv v10 dq) → Hid (Wq wv v11 dq) → Hid (Wq wv (.tuple #[v12, .bool true]) dq) → Hid (Wq wv (.tuple #[v12, v13]) dq) → wpAnyH Try.prog .any O Q9 SS 3 #[true, true, true, true, true, true, true, true, true, true, true, true, true, true, false, false, false] ((((((AA.put (some 46) v4).put (some 51) v9).put (some 52) v10).put (some 41) v11).put (some 53) v12).put (some 54) v13) wv := by
                intro wv v4 v9 v10 v11 v12 v13 hX p4 p9 p10 p11 p12 p13
                have hO1 := hO.out
                have hQ1 := hQ.out
                have hA1 := hA.out
                subst hO1
                subst hQ1
                subst hA1
                have XE := hX.out
                try simp only [Act.put, List.getElem_toArray, List.getElem_cons_succ, List.getElem_cons_zero, List.setIfInBounds_toArray, List.set_cons_zero, List.set_cons_succ]
                refine wpAnyH_ready (rs := [14]) (by kernel_rfl) (by simp) ?_
                refine AllReadyH.cons (o := _) rfl (fun K hK => ?_) AllReadyH.nil
                go_simp
                refine hK.out _ _ (KP.out _ (Ext.trans XE (Ext.alloc _ _))) (fun _ => ?_)
                clear hK K
                try simp only [Act.put, List.getElem_toArray, List.getElem_cons_succ, List.getElem_cons_zero, List.setIfInBounds_toArray, List.set_cons_zero, List.set_cons_succ]
                exact wpAnyH_at (L6_14 _ v4 v9 v10 v11 v12 v13 wv.heap.size (Ext.trans XE (Ext.alloc wv (.cells [.bool false, .slice none 0 0, .slice none 0 0].toArray 28))) (p4.out.ext (Ext.alloc wv (.cells [.bool false, .slice none 0 0, .slice none 0 0].toArray 28))) (p9.out.ext (Ext.alloc wv (.cells [.bool false, .slice none 0 0, .slice none 0 0].toArray 28))) (p10.out.ext (Ext.alloc wv (.cells [.bool false, .slice none 0 0, .slice none 0 0].toArray 28))) (p11.out.ext (Ext.alloc wv (.cells [.bool false, .slice none 0 0, .slice none 0 0].toArray 28))) (p12.out.ext (Ext.alloc wv (.cells [.bool false, .slice none 0 0, .slice none 0 0].toArray 28))) (p13.out.ext (Ext.alloc wv (.cells [.bool false, .slice none 0 0, .slice none 0 0].toArray 28))) (Rt.new wv [.bool false, .slice none 0 0, .slice none 0 0] 28) (Below.size XE)) (by kernel_rfl) (by kernel_rfl) (by kernel_rfl)
              have L4_14 : ∀ (wv : World) (v4 v9 v10 v11 : Value) (B14 : Nat), Hid (Ext w7 wv) → Hid (OwnQ 148 0 wv v4 f1) → Hid (OwnQ 148 0 wv v9 f2) → Hid (Wq wv v10 dq) → Hid (Wq wv v11 dq) → Hid (Rt wv B14 3 28) → Hid (w7.heap.size ≤ B14) → wpAnyH Try.prog .any O Q9 SS 4 #[true, true, true, true, true, true, true, true, true, true, true, true, false, false, true, false, false] (((((AA.put (some 46) v4).put (some 51) v9).put (some 52) v10).put (some 41) v11).put (some 10) (.pointer (some ⟨B14, 0, none⟩))) wv := by
                intro wv v4 v9 v10 v11 B14 hX p4 p9 p10 p11 r14 s14
                have hO1 := hO.out
                have hQ1 := hQ.out
                have hA1 := hA.out
                subst hO1
                subst hQ1
                subst hA1
                have XE := hX.out
                have hS1 := hSS.out
                subst hS1
                have hHeld : (fun w' => (w'.cell? ⟨w4.heap.size, 0, none⟩ = some (.bool g0) ∧ w'.cell? ⟨w4.heap.size, 1, none⟩ = some (.slice d3 n3 e3) ∧ w'.cell? ⟨w4.heap.size, 2, none⟩ = some (.slice d4 n4 e4) ∧ w'.cell? ⟨w4.heap.size, 3, none⟩ = some (.bool g1) ∧ w'.cell? ⟨w4.heap.size, 4, none⟩ = some (.slice d5 n5 e5) ∧ w'.cell? ⟨w4.heap.size, 5, none⟩ = some (.slice d6 n6 e6)) ∧ (w'.cell? ⟨w4.heap.size + 1, 0, none⟩ = some (.bool g2) ∧ w'.cell? ⟨w4.heap.size + 1, 1, none⟩ = some (.slice d7 n7 e7) ∧ w'.cell? ⟨w4.heap.size + 1, 2, none⟩ = some (.slice d8 n8 e8) ∧ w'.cell? ⟨w4.heap.size + 1, 3, none⟩ = some (.bool g3) ∧ w'.cell? ⟨w4.heap.size + 1, 4, none⟩ = some (.slice d9 n9 e9) ∧ w'.cell? ⟨w4.heap.size + 1, 5, none⟩ = some (.slice d10 n10 e10))) wv := ⟨(C7.out.ext XE).c6, (D7.out.ext XE).c6⟩
                try simp only [Act.put, List.getElem_toArray, List.getElem_cons_succ, List.getElem_cons_zero, List.setIfInBounds_toArray, List.set_cons_zero, List.set_cons_succ]
                obtain ⟨o7, rfl, oo7⟩ := p11.out
                refine wpAnyH_take (i := 12) (v := ?_) rfl (by kernel_rfl) (by kernel_rfl) (by kernel_rfl) (fun _ _ _ h => h) (Or.inl ⟨by rfl, fun w0 hSw => ?_⟩) hHeld ?_
                rotate_left
                · (try dsimp only at hSw)
                  go_simp
                  try with_reducible rfl
                simp only [Act.put, List.getElem_toArray, List.getElem_cons_succ, List.getElem_cons_zero, List.setIfInBounds_toArray, List.set_cons_zero, List.set_cons_succ]
                exact wpAnyH_at (L5_14 wv _ _ _ _ _ B14 hX.out p4.out p9.out p10.out p11.out (p11.out) r14.out s14.out) (by kernel_rfl) (by kernel_rfl) (by kernel_rfl)
              have L5_ : ∀ (wv : World) (v4 v9 v10 v11 v12 : Value), Hid (Ext w7 wv) → Hid (OwnQ 148 0 wv v4 f1) → Hid (OwnQ 148 0 wv v9 f2) → Hid (Wq wv v10 dq) → Hid (Wq wv v11 dq) → Hid (Wq wv (.tuple #[v12, .bool true]) dq) → wpAnyH Try.prog .any O Q9 SS 4 #[true, true, true, true, true, true, true, true, true, true, true, true, true, false, false, false, false] (((((AA.put (some 46) v4).put (some 51) v9).put (some 52) v10).put (some 41) v11).put (some 53) v12) wv := by
                intro wv v4 v9 v10 v11 v12 hX p4 p9 p10 p11 p12
                have hO1 := hO.out
                have hQ1 := hQ.out
                have hA1 := hA.out
                subst hO1
                subst hQ1
                subst hA1
                have XE := hX.out
                have hS1 := hSS.out
                subst hS1
                have hHeld : (fun w' => (w'.cell? ⟨w4.heap.size, 0, none⟩ = some (.bool g0) ∧ w'.cell? ⟨w4.heap.size, 1, none⟩ = some (.slice d3 n3 e3) ∧ w'.cell? ⟨w4.heap.size, 2, none⟩ = some (.slice d4 n4 e4) ∧ w'.cell? ⟨w4.heap.size, 3, none⟩ = some (.bool g1) ∧ w'.cell? ⟨w4.heap.size, 4, none⟩ = some (.slice d5 n5 e5) ∧ w'.cell? ⟨w4.heap.size, 5, none⟩ = some (.slice d6 n6 e6)) ∧ (w'.cell? ⟨w4.heap.size + 1, 0, none⟩ = some (.bool g2) ∧ w'.cell? ⟨w4.heap.size + 1, 1, none⟩ = some (.slice d7 n7 e7) ∧ w'.cell? ⟨w4.heap.size + 1, 2, none⟩ = some (.slice d8 n8 e8) ∧ w'.cell? ⟨w4.heap.size + 1, 3, none⟩ = some (.bool g3) ∧ w'.cell? ⟨w4.heap.size + 1, 4, none⟩ = some (.slice d9 n9 e9) ∧ w'.cell? ⟨w4.heap.size + 1, 5, none⟩ = some (.slice d10 n10 e10))) wv := ⟨(C7.out.ext XE).c6, (D7.out.ext XE).c6⟩
                try simp only [Act.put, List.getElem_toArray, List.getElem_cons_succ, List.getElem_cons_zero, List.setIfInBounds_toArray, List.set_cons_zero, List.set_cons_succ]
                obtain ⟨o7, rfl, oo7⟩ := p11.out
                refine wpAnyH_take (i := 13) (v := ?_) rfl (by kernel_rfl) (by kernel_rfl) (by kernel_rfl) (fun _ _ _ h => h) (Or.inl ⟨by rfl, fun w0 hSw => ?_⟩) hHeld ?_
                rotate_left
                · (try dsimp only at hSw)
                  go_simp
                  try with_reducible rfl
                simp only [Act.put, List.getElem_toArray, List.getElem_cons_succ, List.getElem_cons_zero, List.setIfInBounds_toArray, List.set_cons_zero, List.set_cons_succ]
                exact wpAnyH_at (L6_ wv _ _ _ _ _ _ hX.out p4.out p9.out p10.out p11.out p12.out (p12.out)) (by kernel_rfl) (by kernel_rfl) (by kernel_rfl)
              have L3_14 : ∀ (wv : World) (v4 v9 v10 : Value) (B14 : Nat), Hid (Ext w7 wv) → Hid (OwnQ 148 0 wv v4 f1) → Hid (OwnQ 148 0 wv v9 f2) → Hid (Wq wv v10 dq) → Hid (Rt wv B14 3 28) → Hid (w7.heap.size ≤ B14) → wpAnyH Try.prog .any O Q9 SS 5 #[true, true, true, true, true, true, true, true, true, true, true, false, false, false, true, false, false] ((((AA.put (some 46) v4).put (some 51) v9).put (some 52) v10).put (some 10) (.pointer (some ⟨B14, 0, none⟩))) wv := by
                intro wv v4 v9 v10 B14 hX p4 p9 p10 r14 s14
                have hO1 := hO.out
                have hQ1 := hQ.out
                have hA1 := hA.out
                subst hO1
                subst hQ1
                subst hA1
                have XE := hX.out
                have hS1 := hSS.out
                subst hS1
                have hHeld : (fun w' => (w'.cell? ⟨w4.heap.size, 0, none⟩ = some (.bool g0) ∧ w'.cell? ⟨w4.heap.size, 1, none⟩ = some (.slice d3 n3 e3) ∧ w'.cell? ⟨w4.heap.size, 2, none⟩ = some (.slice d4 n4 e4) ∧ w'.cell? ⟨w4.heap.size, 3, none⟩ = some (.bool g1) ∧ w'.cell? ⟨w4.heap.size, 4, none⟩ = some (.slice d5 n5 e5) ∧ w'.cell? ⟨w4.heap.size, 5, none⟩ = some (.slice d6 n6 e6)) ∧ (w'.cell? ⟨w4.heap.size + 1, 0, none⟩ = some (.bool g2) ∧ w'.cell? ⟨w4.heap.size + 1, 1, none⟩ = some (.slice d7 n7 e7) ∧ w'.cell? ⟨w4.heap.size + 1, 2, none⟩ = some (.slice d8 n8 e8) ∧ w'.cell? ⟨w4.heap.size + 1, 3, none⟩ = some (.bool g3) ∧ w'.cell? ⟨w4.heap.size + 1, 4, none⟩ = some (.slice d9 n9 e9) ∧ w'.cell? ⟨w4.heap.size + 1, 5, none⟩ = some (.slice d10 n10 e10))) wv := ⟨(C7.out.ext XE).c6, (D7.out.ext XE).c6⟩
                try simp only [Act.put, List.getElem_toArray, List.getElem_cons_succ, List.getElem_cons_zero, List.setIfInBounds_toArray, List.set_cons_zero, List.set_cons_succ]
                refine wpAnyH_take (i := 11) (v := ?_) rfl (by kernel_rfl) (by kernel_rfl) (by kernel_rfl) (fun _ _ _ h => h) (Or.inl ⟨by rfl, fun w0 hSw => ?_⟩) hHeld ?_
                rotate_left
                · (try dsimp only at hSw)
                  go_simp
                  try with_reducible rfl
                simp only [Act.put, List.getElem_toArray, List.getElem_cons_succ, List.getElem_cons_zero, List.setIfInBounds_toArray, List.set_cons_zero, List.set_cons_succ]
                exact wpAnyH_at (L4_14 wv _ _ _ _ B14 hX.out p4.out p9.out p10.out (p10.out) r14.out s14.out) (by kernel_rfl) (by kernel_rfl) (by kernel_rfl)
              have L4_ : ∀ (wv : World) (v4 v9 v10 v11 : Value), Hid (Ext w7 wv) → Hid (OwnQ 148 0 wv v4 f1) → Hid (OwnQ 148 0 wv v9 f2) → Hid (Wq wv v10 dq) → Hid (Wq wv v11 dq) → wpAnyH Try.prog .any O Q9 SS 5 #[true, true, true, true, true, true, true, true, true, true, true, true, false, false, false, false, false] ((((AA.put (some 46) v4).put (some 51) v9).put (some 52) v10).put (some 41) v11) wv := by
                intro wv v4 v9 v10 v11 hX p4 p9 p10 p11
                have hO1 := hO.out
                have hQ1 := hQ.out
                have hA1 := hA.out
                subst hO1
                subst hQ1
                subst hA1
                have XE := hX.out
                have hS1 := hSS.out
                subst hS1
                have hHeld : (fun w' => (w'.cell? ⟨w4.heap.size, 0, none⟩ = some (.bool g0) ∧ w'.cell? ⟨w4.heap.size, 1, none⟩ = some (.slice d3 n3 e3) ∧ w'.cell? ⟨w4.heap.size, 2, none⟩ = some (.slice d4 n4 e4) ∧ w'.cell? ⟨w4.heap.size, 3, none⟩ = some (.bool g1) ∧ w'.cell? ⟨w4.heap.size, 4, none⟩ = some (.slice d5 n5 e5) ∧ w'.cell? ⟨w4.heap.size, 5, none⟩ = some (.slice d6 n6 e6)) ∧ (w'.cell? ⟨w4.heap.size + 1, 0, none⟩ = some (.bool g2) ∧ w'.cell? ⟨w4.heap.size + 1, 1, none⟩ = some (.slice d7 n7 e7) ∧ w'.cell? ⟨w4.heap.size + 1, 2, none⟩ = some (.slice d8 n8 e8) ∧ w'.cell? ⟨w4.heap.size + 1, 3, none⟩ = some (.bool g3) ∧ w'.cell? ⟨w4.heap.size + 1, 4, none⟩ = some (.slice d9 n9 e9) ∧ w'.cell? ⟨w4.heap.size + 1, 5, none⟩ = some (.slice d10 n10 e10))) wv := ⟨(C7.out.ext XE).c6, (D7.out.ext XE).c6⟩
                try simp only [Act.put, List.getElem_toArray, List.getElem_cons_succ, List.getElem_cons_zero, List.setIfInBounds_toArray, List.set_cons_zero, List.set_cons_succ]
                obtain ⟨o7, rfl, oo7⟩ := p11.out
                refine wpAnyH_take (i := 12) (v := ?_) rfl (by kernel_rfl) (by kernel_rfl) (by kernel_rfl) (fun _ _ _ h => h) (Or.inl ⟨by rfl, fun w0 hSw => ?_⟩) hHeld ?_
                rotate_left
                · (try dsimp only at hSw)
                  go_simp
                  try with_reducible rfl
                simp only [Act.put, List.getElem_toArray, List.getElem_cons_succ, List.getElem_cons_zero, List.setIfInBounds_toArray, List.set_cons_zero, List.set_cons_succ]
                exact wpAnyH_at (L5_ wv _ _ _ _ _ hX.out p4.out p9.out p10.out p11.out (p11.out)) (by kernel_rfl) (by kernel_rfl) (by kernel_rfl)
              have L2_14 : ∀ (wv : World) (v4 v9 : Value) (B14 : Nat), Hid (Ext w7 wv) → Hid (OwnQ 148 0 wv v4 f1) → Hid (OwnQ 148 0 wv v9 f2) → Hid (Rt wv B14 3 28) → Hid (w7.heap.size ≤ B14) → wpAnyH Try.prog .any O Q9 SS 6 #[true, true, true, true, true, true, true, true, true, true, false, false, false, false, true, false, false] (((AA.put (some 46) v4).put (some 51) v9).put (some 10) (.pointer (some ⟨B14, 0, none⟩))) wv := by
                intro wv v4 v9 B14 hX p4 p9 r14 s14
                have hO1 := hO.out
                have hQ1 := hQ.out
                have hA1 := hA.out
                subst hO1
                subst hQ1
                subst hA1
                have XE := hX.out
                try simp only [Act.put, List.getElem_toArray, List.getElem_cons_succ, List.getElem_cons_zero, List.setIfInBounds_toArray, List.set_cons_zero, List.set_cons_succ]
                refine wpAnyH_ready (rs := [10]) (by kernel_rfl) (by simp) ?_
                refine AllReadyH.cons (o := _) rfl (fun K hK => ?_) AllReadyH.nil
                go_simp
                go_at_call 106
                refine (HDV.out _ _ _ p4.out p9.out).mono ?_
                rintro e wn ⟨vn, rfl, bn, on⟩
                go_wp2_with fail
                refine hK.out _ _ (KP.out _ (Ext.trans XE bn)) (fun _ => ?_)
                clear hK K
                try simp only [Act.put, List.getElem_toArray, List.getElem_cons_succ, List.getElem_cons_zero, List.setIfInBounds_toArray, List.set_cons_zero, List.set_cons_succ]
                exact wpAnyH_at (L3_14 wn v4 v9 vn B14 (Ext.trans XE bn) (p4.out.ext bn) (p9.out.ext bn) (on) (r14.out.ext bn) s14) (by kernel_rfl) (by kernel_rfl) (by kernel_rfl)
              have L3_ : ∀ (wv : World) (v4 v9 v10 : Value), Hid (Ext w7 wv) → Hid (OwnQ 148 0 wv v4 f1) → Hid (OwnQ 148 0 wv v9 f2) → Hid (Wq wv v10 dq) → wpAnyH Try.prog .any O Q9 SS 6 #[true, true, true, true, true, true, true, true, true, true, true, false, false, false, false, false, false] (((AA.put (some 46) v4).put (some 51) v9).put (some 52) v10) wv := by
                intro wv v4 v9 v10 hX p4 p9 p10
                have hO1 := hO.out
                have hQ1 := hQ.out
                have hA1 := hA.out
                subst hO1
                subst hQ1
                subst hA1
                have XE := hX.out
                have hS1 := hSS.out
                subst hS1
                have hHeld : (fun w' => (w'.cell? ⟨w4.heap.size, 0, none⟩ = some (.bool g0) ∧ w'.cell? ⟨w4.heap.size, 1, none⟩ = some (.slice d3 n3 e3) ∧ w'.cell? ⟨w4.heap.size, 2, none⟩ = some (.slice d4 n4 e4) ∧ w'.cell? ⟨w4.heap.size, 3, none⟩ = some (.bool g1) ∧ w'.cell? ⟨w4.heap.size, 4, none⟩ = some (.slice d5 n5 e5) ∧ w'.cell? ⟨w4.heap.size, 5, none⟩ = some (.slice d6 n6 e6)) ∧ (w'.cell? ⟨w4.heap.size + 1, 0, none⟩ = some (.bool g2) ∧ w'.cell? ⟨w4.heap.size + 1, 1, none⟩ = some (.slice d7 n7 e7) ∧ w'.cell? ⟨w4.heap.size + 1, 2, none⟩ = some (.slice d8 n8 e8) ∧ w'.cell? ⟨w4.heap.size + 1, 3, none⟩ = some (.bool g3) ∧ w'.cell? ⟨w4.heap.size + 1, 4, none⟩ = some (.slice d9 n9 e9) ∧ w'.cell? ⟨w4.heap.size + 1, 5, none⟩ = some (.slice d10 n10 e10))) wv := ⟨(C7.out.ext XE).c6, (D7.out.ext XE).c6⟩
                try simp only [Act.put, List.getElem_toArray, List.getElem_cons_succ, List.getElem_cons_zero, List.setIfInBounds_toArray, List.set_cons_zero, List.set_cons_succ]
                refine wpAnyH_take (i := 11) (v := ?_) rfl (by kernel_rfl) (by kernel_rfl) (by kernel_rfl) (fun _ _ _ h => h) (Or.inl ⟨by rfl, fun w0 hSw => ?_⟩) hHeld ?_
                rotate_left
                · (try dsimp only at hSw)
                  go_simp
                  try with_reducible rfl
                simp only [Act.put, List.getElem_toArray, List.getElem_cons_succ, List.getElem_cons_zero, List.setIfInBounds_toArray, List.set_cons_zero, List.set_cons_succ]
                exact wpAnyH_at (L4_ wv _ _ _ _ hX.out p4.out p9.out p10.out (p10.out)) (by kernel_rfl) (by kernel_rfl) (by kernel_rfl)
              have L1_14 : ∀ (wv : World) (v4 : Value) (B14 : Nat), Hid (Ext w7 wv) → Hid (OwnQ 148 0 wv v4 f1) → Hid (Rt wv B14 3 28) → Hid (w7.heap.size ≤ B14) → wpAnyH Try.prog .any O Q9 SS 7 #[true, true, true, true, true, true, true, true, true, false, false, false, false, false, true, false, false] ((AA.put (some 46) v4).put (some 10) (.pointer (some ⟨B14, 0, none⟩))) wv := by
                intro wv v4 B14 hX p4 r14 s14
                have hO1 := hO.out
                have hQ1 := hQ.out
                have hA1 := hA.out
                subst hO1
                subst hQ1
                subst hA1
                have XE := hX.out
                try simp only [Act.put, List.getElem_toArray, List.getElem_cons_succ, List.getElem_cons_zero, List.setIfInBounds_toArray, List.set_cons_zero, List.set_cons_succ]
                refine wpAnyH_ready (rs := [9]) (by kernel_rfl) (by simp) ?_
                refine AllReadyH.cons (o := _) rfl (fun K hK => ?_) AllReadyH.nil
                go_simp
                go_at_call 105
                refine (HSB2.out _ _ _ (QA2.out.ext XE) (QB2.out.ext XE)).mono ?_
                rintro e wn ⟨vn, rfl, bn, on⟩
                go_wp2_with fail
                refine hK.out _ _ (KP.out _ (Ext.trans XE bn)) (fun _ => ?_)
                clear hK K
                try simp only [Act.put, List.getElem_toArray, List.getElem_cons_succ, List.getElem_cons_zero, List.setIfInBounds_toArray, List.set_cons_zero, List.set_cons_succ]
                exact wpAnyH_at (L2_14 wn v4 vn B14 (Ext.trans XE bn) (p4.out.ext bn) (on) (r14.out.ext bn) s14) (by kernel_rfl) (by kernel_rfl) (by kernel_rfl)
              have L2_ : ∀ (wv : World) (v4 v9 : Value), Hid (Ext w7 wv) → Hid (OwnQ 148 0 wv v4 f1) → Hid (OwnQ 148 0 wv v9 f2) → wpAnyH Try.prog .any O Q9 SS 7 #[true, true, true, true, true, true, true, true, true, true, false, false, false, false, false, false, false] ((AA.put (some 46) v4).put (some 51) v9) wv := by
                intro wv v4 v9 hX p4 p9
                have hO1 := hO.out
                have hQ1 := hQ.out
                have hA1 := hA.out
                subst hO1
                subst hQ1
                subst hA1
                have XE := hX.out
                try simp only [Act.put, List.getElem_toArray, List.getElem_cons_succ, List.getElem_cons_zero, List.setIfInBounds_toArray, List.set_cons_zero, List.set_cons_succ]
                refine wpAnyH_ready (rs := [10, 14]) (by kernel_rfl) (by simp) ?_
                refine AllReadyH.cons (o := _) rfl (fun K hK => ?_) (AllReadyH.cons (o := _) rfl (fun K hK => ?_) AllReadyH.nil)
                · skip
                  go_simp
                  go_at_call 106
                  refine (HDV.out _ _ _ p4.out p9.out).mono ?_
                  rintro e wn ⟨vn, rfl, bn, on⟩
                  go_wp2_with fail
                  refine hK.out _ _ (KP.out _ (Ext.trans XE bn)) (fun _ => ?_)
                  clear hK K
                  try simp only [Act.put, List.getElem_toArray, List.getElem_cons_succ, List.getElem_cons_zero, List.setIfInBounds_toArray, List.set_cons_zero, List.set_cons_succ]
                  exact wpAnyH_at (L3_ wn v4 v9 vn (Ext.trans XE bn) (p4.out.ext bn) (p9.out.ext bn) (on)) (by kernel_rfl) (by kernel_rfl) (by kernel_rfl)
                · skip
                  go_simp
                  refine hK.out _ _ (KP.out _ (Ext.trans XE (Ext.alloc _ _))) (fun _ => ?_)
                  clear hK K
                  try simp only [Act.put, List.getElem_toArray, List.getElem_cons_succ, List.getElem_cons_zero, List.setIfInBounds_toArray, List.set_cons_zero, List.set_cons_succ]
                  exact wpAnyH_at (L2_14 _ v4 v9 wv.heap.size (Ext.trans XE (Ext.alloc wv (.cells [.bool false, .slice none 0 0, .slice none 0 0].toArray 28))) (p4.out.ext (Ext.alloc wv (.cells [.bool false, .slice none 0 0, .slice none 0 0].toArray 28))) (p9.out.ext (Ext.alloc wv (.cells [.bool false, .slice none 0 0, .slice none 0 0].toArray 28))) (Rt.new wv [.bool false, .slice none 0 0, .slice none 0 0] 28) (Below.size XE)) (by kernel_rfl) (by kernel_rfl) (by kernel_rfl)
              have L0_14 : ∀ (wv : World) (B14 : Nat), Hid (Ext w7 wv) → Hid (Rt wv B14 3 28) → Hid (w7.heap.size ≤ B14) → wpAnyH Try.prog .any O Q9 SS 8 #[true, true, true, true, false, true, true, true, true, false, false, false, false, false, true, false, false] (AA.put (some 10) (.pointer (some ⟨B14, 0, none⟩))) wv := by
                intro wv B14 hX r14 s14
                have hO1 := hO.out
                have hQ1 := hQ.out
                have hA1 := hA.out
                subst hO1
                subst hQ1
                subst hA1
                have XE := hX.out
                try simp only [Act.put, List.getElem_toArray, List.getElem_cons_succ, List.getElem_cons_zero, List.setIfInBounds_toArray, List.set_cons_zero, List.set_cons_succ]
                refine wpAnyH_ready (rs := [4]) (by kernel_rfl) (by simp) ?_
                refine AllReadyH.cons (o := _) rfl (fun K hK => ?_) AllReadyH.nil
                go_simp
                go_at_call 105
                refine (HSB1.out _ _ _ (QB1.out.ext XE) (QA1.out.ext XE)).mono ?_
                rintro e wn ⟨vn, rfl, bn, on⟩
                go_wp2_with fail
                refine hK.out _ _ (KP.out _ (Ext.trans XE bn)) (fun _ => ?_)
                clear hK K
                try simp only [Act.put, List.getElem_toArray, List.getElem_cons_succ, List.getElem_cons_zero, List.setIfInBounds_toArray, List.set_cons_zero, List.set_cons_succ]
                exact wpAnyH_at (L1_14 wn vn B14 (Ext.trans XE bn) (on) (r14.out.ext bn) s14) (by kernel_rfl) (by kernel_rfl) (by kernel_rfl)
              have L1_ : ∀ (wv : World) (v4 : Value), Hid (Ext w7 wv) → Hid (OwnQ 148 0 wv v4 f1) → wpAnyH Try.prog .any O Q9 SS 8 #[true, true, true, true, true, true, true, true, true, false, false, false, false, false, false, false, false] (AA.put (some 46) v4) wv := by
                intro wv v4 hX p4
                have hO1 := hO.out
                have hQ1 := hQ.out
                have hA1 := hA.out
                subst hO1
                subst hQ1
                subst hA1
                have XE := hX.out
                try simp only [Act.put, List.getElem_toArray, List.getElem_cons_succ, List.getElem_cons_zero, List.setIfInBounds_toArray, List.set_cons_zero, List.set_cons_succ]
                refine wpAnyH_ready (rs := [9, 14]) (by kernel_rfl) (by simp) ?_
                refine AllReadyH.cons (o := _) rfl (fun K hK => ?_) (AllReadyH.cons (o := _) rfl (fun K hK => ?_) AllReadyH.nil)
                · skip
                  go_simp
                  go_at_call 105
                  refine (HSB2.out _ _ _ (QA2.out.ext XE) (QB2.out.ext XE)).mono ?_
                  rintro e wn ⟨vn, rfl, bn, on⟩
                  go_wp2_with fail
                  refine hK.out _ _ (KP.out _ (Ext.trans XE bn)) (fun _ => ?_)
                  clear hK K
                  try simp only [Act.put, List.getElem_toArray, List.getElem_cons_succ, List.getElem_cons_zero, List.setIfInBounds_toArray, List.set_cons_zero, List.set_cons_succ]
                  exact wpAnyH_at (L2_ wn v4 vn (Ext.trans XE bn) (p4.out.ext bn) (on)) (by kernel_rfl) (by kernel_rfl) (by kernel_rfl)
                · skip
                  go_simp
                  refine hK.out _ _ (KP.out _ (Ext.trans XE (Ext.alloc _ _))) (fun _ => ?_)
                  clear hK K
                  try simp only [Act.put, List.getElem_toArray, List.getElem_cons_succ, List.getElem_cons_zero, List.setIfInBounds_toArray, List.set_cons_zero, List.set_cons_succ]
                  exact wpAnyH_at (L1_14 _ v4 wv.heap.size (Ext.trans XE (Ext.alloc wv (.cells [.bool false, .slice none 0 0, .slice none 0 0].toArray 28))) (p4.out.ext (Ext.alloc wv (.cells [.bool false, .slice none 0 0, .slice none 0 0].toArray 28))) (Rt.new wv [.bool false, .slice none 0 0, .slice none 0 0] 28) (Below.size XE)) (by kernel_rfl) (by kernel_rfl) (by kernel_rfl)
              have L0_ : ∀ (wv : World), Hid (Ext w7 wv) → wpAnyH Try.prog .any O Q9 SS 9 #[true, true, true, true, false, true, true, true, true, false, false, false, false, false, false, false, false] AA wv := by
                intro wv hX
                have hO1 := hO.out
                have hQ1 := hQ.out
                have hA1 := hA.out
                subst hO1
                subst hQ1
                subst hA1
                have XE := hX.out
                try simp only [Act.put, List.getElem_toArray, List.getElem_cons_succ, List.getElem_cons_zero, List.setIfInBounds_toArray, List.set_cons_zero, List.set_cons_succ]
                refine wpAnyH_ready (rs := [4, 14]) (by kernel_rfl) (by simp) ?_
                refine AllReadyH.cons (o := _) rfl (fun K hK => ?_) (AllReadyH.cons (o := _) rfl (fun K hK => ?_) AllReadyH.nil)
                · skip
                  go_simp
                  go_at_call 105
                  refine (HSB1.out _ _ _ (QB1.out.ext XE) (QA1.out.ext XE)).mono ?_
                  rintro e wn ⟨vn, rfl, bn, on⟩
                  go_wp2_with fail
                  refine hK.out _ _ (KP.out _ (Ext.trans XE bn)) (fun _ => ?_)
                  clear hK K
                  try simp only [Act.put, List.getElem_toArray, List.getElem_cons_succ, List.getElem_cons_zero, List.setIfInBounds_toArray, List.set_cons_zero, List.set_cons_succ]
                  exact wpAnyH_at (L1_ wn vn (Ext.trans XE bn) (on)) (by kernel_rfl) (by kernel_rfl) (by kernel_rfl)
                · skip
                  go_simp
                  refine hK.out _ _ (KP.out _ (Ext.trans XE (Ext.alloc _ _))) (fun _ => ?_)
                  clear hK K
                  try simp only [Act.put, List.getElem_toArray, List.getElem_cons_succ, List.getElem_cons_zero, List.setIfInBounds_toArray, List.set_cons_zero, List.set_cons_succ]
                  exact wpAnyH_at (L0_14 _ wv.heap.size (Ext.trans XE (Ext.alloc wv (.cells [.bool false, .slice none 0 0, .slice none 0 0].toArray 28))) (Rt.new wv [.bool false, .slice none 0 0, .slice none 0 0] 28) (Below.size XE)) (by kernel_rfl) (by kernel_rfl) (by kernel_rfl)
              have hO1 := hO.out
              have hQ1 := hQ.out
              have hA1 := hA.out
              subst hO1
              subst hQ1
              subst hA1
              have hS1 := hSS.out
              subst hS1
              exact wpAnyH_at (L0_ w7.drew (drew_ext w7)) (by kernel_rfl) (by kernel_rfl) (by kernel_rfl)
            case rest =>
              obtain ⟨E, rfl, b8, HE⟩ := hcut
              generalize wc = w8 at *
              obtain ⟨z0, d3, n3, e3, d4, n4, e4, T1, T2, T3⟩ := (hB.out.ext (Ext.trans b5 (Ext.trans b6 (Ext.trans b7 b8)))).op
              obtain ⟨z3, d5, n5, e5, d6, n6, e6, T4, T5, T6⟩ := HE.out.op
              obtain ⟨u0, u1, u2⟩ := T1.out.c3
              obtain ⟨q0, q1, q2⟩ := T4.out.c3
              go_wp2_with fail
              refine (rmin_val T3.out.rd T6.out.rd (hS.out.le (by decide)) (SQ.out.le (by decide))).mono ?_
              rintro e w9 ⟨_, rfl, b9, rfl⟩
              have T9 := Lib.hid (T2.out.ext b9)
              obtain ⟨_, _, _, j0, j1, j2, i0, i1, i2⟩ := T9.out.rm.c3
              clear u0 u1 u2 q0 q1 q2
              have HLS : Hid (lst m dq = if (m - dq).num.sign ≤ 0 then m else dq) := rfl
              generalize (m - dq).num.sign = sm at *
              by_cases hm : sm ≤ 0
              · rw [if_pos hm]
                have HM : Hid (lst m dq = m) := by show _ = _; rw [HLS.out, if_pos hm]
                clear hm HLS
                go_wp2_with fail
                go_roundw
                case rel => exact ⟨k + 1, m, by go_num, by omega, put3_below (Ext.trans b4 (Ext.trans b5 (Ext.trans b6 (Ext.trans b7 (Ext.trans b8 b9))))) (Nat.le_refl _) _ _ _, Bq.set T9.out (by decide) (T3.out.ext b9), hS, by rw [← HC2.out, HM.out]; exact rfl⟩
                case measure => simp [intOf] <;> omega
              · rw [if_neg hm]
                have HM : Hid (lst m dq = dq) := by show _ = _; rw [HLS.out, if_neg hm]
                clear hm HLS
                go_wp2_with fail
                go_roundw
                case rel => exact ⟨k + 1, dq, by go_num, by omega, put3_below (Ext.trans b4 (Ext.trans b5 (Ext.trans b6 (Ext.trans b7 (Ext.trans b8 b9))))) (Nat.le_refl _) _ _ _, Bq.set T9.out (by decide) (T6.out.ext b9), SQ, by rw [← HC2.out, HM.out]; exact rfl⟩
                case measure => simp [intOf] <;> omega
      · obtain rfl : k = A.length := by omega
        have hcm : some m = chz (A.zip B) 1 := by
          have := hC.out
          rw [List.drop_eq_nil_of_le (by rw [HLZ.out]; exact Nat.le_refl _)] at this
          exact this
        rw [← hcm] at hR
        clear hcm
        obtain ⟨z0, d3, n3, e3, d4, n4, e4, T1, T2, T3⟩ := hB.out.op
        obtain ⟨u0, u1, u2⟩ := T1.out.c3
        have R4 := Lib.hid (R1.out.ext (Ext.trans b2 b4))
        obtain ⟨_, _, _, j0, j1, j2, i0, i1, i2⟩ := R4.out.rm.c3
        go_wp2_with fail
        refine bodyPost_ret (v := .tuple #[.agg #[.bool z0, .slice d3 n3 e3, .slice d4 n4 e4], .int .i64 0]) (by simp [results, Try.results58, go_sem, j0, j1, j2]) rfl ?_
        exact hR.out _ _ (Gives.mk (put3_below b04 (Nat.le_refl _) _ _ _) ⟨_, rfl, OwnQ.putT T3.out R4.out (by decide) 0 [_, _, _], hS.out⟩)
  · rw [if_neg hlen] at hR
    have h1 : ((A.length : Int) != (B.length : Int)) = true := by simp only [bne_iff_ne]; omega
    go_enter Try.func58, Try.ntmps58
    go_wp2_with fail
    refine bodyPost_ret (v := .tuple #[.agg #[.bool false, .slice none 0 0, .slice none 0 0], .int .i64 4]) (by simp [results, Try.results58, go_sem]) rfl ?_
    exact hR.out _ _ (Gives.mk (Ext.alloc _ _) rfl)
end Go.Proofs.Ytpeeacdnjbcmiaa
