/- attestref07.Choose -/
import Derived.Test.YtpeeacdnjbcmiaaPChoose
import Derived.Test.YtpeeacdnjbcmiaaPRef5Inv
import Derived.Test.YtpeeacdnjbcmiaaPRef5Int
import Derived.Test.YtpeeacdnjbcmiaaPRef5Add
import Derived.Test.YtpeeacdnjbcmiaaPRef5Neg
import Derived.Test.YtpeeacdnjbcmiaaPRef5Mul
import Derived.Test.YtpeeacdnjbcmiaaPRef5Cmp
namespace Go.Proofs.Ytpeeacdnjbcmiaa
open Go.RowKit Go.Att

/-- What the document answers. -/
def ChP (w : World) (v : Value) : Option Rat → Prop
  | some m => ∃ o, v = .tuple #[o, .bool true] ∧ OwnP 4 0 w o m
  | none => ∃ s a l c a' l' c', v = .tuple #[.agg #[.bool s, .slice a l c, .slice a' l' c'], .bool false]
abbrev BP (w : World) (b : Nat) (q : Rat) : Prop := Bp 4 33 w b q
theorem sub_sgn (a b : Rat) : (a - b).num.sign = -(b - a).num.sign := by rw [← Int.sign_neg, ← Rat.neg_num, Rat.neg_sub]
set_option maxHeartbeats 4000000 in
set_option linter.unusedSimpArgs false in
theorem r7choose_any {w : World} {v0 v1 : Value} {A B : List (Rat × Rat)} (hv0 : RdRow 6 (OwnEp 4) w v0 A) (hv1 : RdRow 6 (OwnEp 4) w v1 B) (s0 : ∀ p ∈ A, Sz 8 p.1 ∧ Sz 8 p.2) (s1 : ∀ p ∈ B, Sz 8 p.1 ∧ Sz 8 p.2) :
    Calls Try.prog 59 #[v0, v1] w (Gives w fun v' w' => ChP w' v' (cho A B)) := by
  refine via fun R hR => ?_
  have HV0 := Lib.hid hv0
  have HV1 := Lib.hid hv1
  have S0 := Lib.hid s0
  have S1 := Lib.hid s1
  obtain ⟨a0, c0, rfl, hlc0, hcm0⟩ := hv0.shape
  obtain ⟨a1, c1, rfl, hlc1, hcm1⟩ := hv1.shape
  unfold maxLen at hcm0 hcm1
  clear hv0 hv1 s0 s1
  unfold cho at hR
  obtain ⟨w1, hw1, b1, -, r1, -⟩ := bx1 w [.bool false, .slice none 0 0, .slice none 0 0] 33
  have HW := Lib.hid hw1
  have R1 : Hid (Rt w1 w.heap.size 3 33) := by show Rt _ _ _ _; rw [hw1]; exact Rt.new w [_, _, _] _
  clear hw1 r1
  by_cases hlen : A.length = B.length
  · rw [if_pos hlen] at hR
    have HLEN := Lib.hid hlen
    have h1 : ((A.length : Int) != (B.length : Int)) = false := by rw [hlen]; exact bne_self_eq_false _
    clear hlen
    have HLZ : Hid ((A.zip B).length = A.length) := by show _ = _; rw [List.length_zip, ← HLEN.out]; exact Nat.min_self _
    go_enter Try.func59, Try.ntmps59
    go_upto_region 3 with (fail)
    rw [← HW.out]
    clear HW h1
    go_wp2_with fail
    refine (r5int_any (u := 1) (by omega)).mono ?_
    rintro e w2 ⟨v2, rfl, b2, o2⟩
    obtain ⟨t0, d1, n1, e1, d2, n2, e2, rfl, O2⟩ := o2.op
    clear o2
    go_wp2_with fail
    go_loopw [19] (fun i wr => ∃ (k : Nat) (m : Rat), i = .int .i64 k ∧ k ≤ A.length ∧ Ext w2 wr ∧ Hid (BP wr w2.heap.size m) ∧ Hid (Sz 50 m) ∧ Hid (chz ((A.zip B).drop k) m = chz (A.zip B) 1)) (fun i _ => A.length - (intOf i).toNat)
    case atStart => exact ⟨0, 1, rfl, Nat.zero_le _, Ext.alloc _ _, Bp.new (O2.out.mono (Nat.zero_le _)), (Sz.int 1 (by omega)).le (by decide), rfl⟩
    case round =>
      obtain ⟨k, m, rfl, hk, hx, hB, hS, hC⟩ := hrel
      have b4 := hx
      have b04 := Ext.trans b1 (Ext.trans b2 b4)
      generalize wr = w4 at *
      by_cases hlt : k < A.length
      · have hltm : k < B.length := by have := HLEN.out; omega
        obtain ⟨b, off, cs, rfl, hcl, hT, hc⟩ := HV0.out.at (by decide) k hlt
        obtain ⟨b', off', cs', rfl, hcl', hT', hc'⟩ := HV1.out.at (by decide) k hltm
        have hz : k < (A.zip B).length := by rw [HLZ.out]; exact hlt
        have hC2 := hC.out
        rw [List.drop_eq_getElem_cons hz, List.getElem_zip, chz_cons] at hC2
        have HC := Lib.hid hC2
        have S2 := Lib.hid (S0.out _ (List.getElem_mem hlt))
        have S3 := Lib.hid (S1.out _ (List.getElem_mem hltm))
        have HA : Hid (OwnE 4 0 w (.agg cs.toArray) A[k].1 A[k].2) := hT
        have HB : Hid (OwnE 4 0 w (.agg cs'.toArray) B[k].1 B[k].2) := hT'
        have KA : Hid (Bo w b (off + k * 6) cs) := Bo.of hc hcl
        have KB : Hid (Bo w b' (off' + k * 6) cs') := Bo.of hc' hcl'
        generalize A[k] = p at *
        generalize B[k] = y at *
        obtain ⟨x0, x1, x2, x3, x4, x5, rfl, -, -⟩ := cells_E HA.out.rd
        obtain ⟨y0, y1, y2, y3, y4, y5, rfl, -, -⟩ := cells_E HB.out.rd
        have CA := Lib.hid (Bo.ext KA.out b04)
        have CB := Lib.hid (Bo.ext KB.out b04)
        have RA := Lib.hid (HA.out.rd.ext b04)
        have RB := Lib.hid (HB.out.rd.ext b04)
        have HSG : Hid (∀ w v, RdP w v (p.2 - y.2) → Calls Try.prog 108 #[v] w (Gives w fun v' _ => v' = .int .i64 (p.2 - y.2).num.sign)) := fun w v h => r5sign_any h
        have HNZ : Hid (0 < (p.2 - y.2).num.sign → (p.2 - y.2).num ≠ 0) := fun h h2 => by rw [h2] at h; exact absurd h (by decide)
        have HCM : Hid (∀ w va vb, RdE w va p.1 p.2 → RdE w vb y.1 y.2 → Calls Try.prog 107 #[va, vb] w (Gives w fun v' _ => v' = .int .i64 (cmpD p.1 p.2 y.1 y.2))) := fun w va vb h1 h2 => r7cmp_any h1 h2 (S2.out.1.bits.le (by decide)) (S2.out.2.bits.le (by decide)) (S3.out.1.bits.le (by decide)) (S3.out.2.bits.le (by decide))
        clear hT hT' hc hc' hcl hcl' hC hC2 KA KB
        generalize cmpD p.1 p.2 y.1 y.2 = t at *
        generalize (p.2 - y.2).num.sign = sg at *
        go_upto_region 7 with (fail)
        have b5 := drew_ext w4
        have XE := b5
        refine wp_region_noPanic ?_
        refine wp_region_held_drew (S := fun w' => (w'.cell? ⟨b, off + k * 6, none⟩ = some (x0) ∧ w'.cell? ⟨b, off + k * 6 + 1, none⟩ = some (x1) ∧ w'.cell? ⟨b, off + k * 6 + 2, none⟩ = some (x2) ∧ w'.cell? ⟨b, off + k * 6 + 3, none⟩ = some (x3) ∧ w'.cell? ⟨b, off + k * 6 + 4, none⟩ = some (x4) ∧ w'.cell? ⟨b, off + k * 6 + 5, none⟩ = some (x5)) ∧ (w'.cell? ⟨b', off' + k * 6, none⟩ = some (y0) ∧ w'.cell? ⟨b', off' + k * 6 + 1, none⟩ = some (y1) ∧ w'.cell? ⟨b', off' + k * 6 + 2, none⟩ = some (y2) ∧ w'.cell? ⟨b', off' + k * 6 + 3, none⟩ = some (y3) ∧ w'.cell? ⟨b', off' + k * 6 + 4, none⟩ = some (y4) ∧ w'.cell? ⟨b', off' + k * 6 + 5, none⟩ = some (y5))) (by kernel_rfl) (⟨(CA.out.ext XE).c6, (CB.out.ext XE).c6⟩) (fun hHeld => ?_)
        refine wpAnyH_take (i := 0) (v := ?_) rfl (by kernel_rfl) (by kernel_rfl) (by kernel_rfl) (fun _ _ _ h => h) (Or.inl ⟨by rfl, fun w0 hSw => ?_⟩) hHeld ?_
        rotate_left
        · (try dsimp only at hSw)
          go_simp
          try with_reducible rfl
        simp only [Act.put, List.getElem_toArray, List.getElem_cons_succ, List.getElem_cons_zero, List.setIfInBounds_toArray, List.set_cons_zero, List.set_cons_succ]
        refine wpAnyH_take (i := 1) (v := ?_) rfl (by kernel_rfl) (by kernel_rfl) (by kernel_rfl) (fun _ _ _ h => h) (Or.inl ⟨by rfl, fun w0 hSw => ?_⟩) hHeld ?_
        rotate_left
        · (try dsimp only at hSw)
          go_simp
          try with_reducible rfl
        simp only [Act.put, List.getElem_toArray, List.getElem_cons_succ, List.getElem_cons_zero, List.setIfInBounds_toArray, List.set_cons_zero, List.set_cons_succ]
        refine wpAnyH_take (i := 2) (v := ?_) rfl (by kernel_rfl) (by kernel_rfl) (by kernel_rfl) (fun _ _ _ h => h) (Or.inl ⟨by rfl, fun w0 hSw => ?_⟩) hHeld ?_
        rotate_left
        · (try dsimp only at hSw)
          go_simp
          try with_reducible rfl
        simp only [Act.put, List.getElem_toArray, List.getElem_cons_succ, List.getElem_cons_zero, List.setIfInBounds_toArray, List.set_cons_zero, List.set_cons_succ]
        refine wpAnyH_take (i := 3) (v := ?_) rfl (by kernel_rfl) (by kernel_rfl) (by kernel_rfl) (fun _ _ _ h => h) (Or.inl ⟨by rfl, fun w0 hSw => ?_⟩) hHeld ?_
        rotate_left
        · (try dsimp only at hSw)
          go_simp
          try with_reducible rfl
        simp only [Act.put, List.getElem_toArray, List.getElem_cons_succ, List.getElem_cons_zero, List.setIfInBounds_toArray, List.set_cons_zero, List.set_cons_succ]
        refine wpAnyH_take (i := 4) (v := ?_) rfl (by kernel_rfl) (by kernel_rfl) (by kernel_rfl) (fun _ _ _ h => h) (Or.inl ⟨by rfl, fun w0 hSw => ?_⟩) hHeld ?_
        rotate_left
        · (try dsimp only at hSw)
          go_simp
          try with_reducible rfl
        simp only [Act.put, List.getElem_toArray, List.getElem_cons_succ, List.getElem_cons_zero, List.setIfInBounds_toArray, List.set_cons_zero, List.set_cons_succ]
        refine wpAnyH_take (i := 5) (v := ?_) rfl (by kernel_rfl) (by kernel_rfl) (by kernel_rfl) (fun _ _ _ h => h) (Or.inl ⟨by rfl, fun w0 hSw => ?_⟩) hHeld ?_
        rotate_left
        · (try dsimp only at hSw)
          go_simp
          try with_reducible rfl
        simp only [Act.put, List.getElem_toArray, List.getElem_cons_succ, List.getElem_cons_zero, List.setIfInBounds_toArray, List.set_cons_zero, List.set_cons_succ]
        refine wpAnyH_take (i := 6) (v := ?_) rfl (by kernel_rfl) (by kernel_rfl) (by kernel_rfl) (fun _ _ _ h => h) (Or.inl ⟨by rfl, fun w0 hSw => ?_⟩) hHeld ?_
        rotate_left
        · (try dsimp only at hSw)
          go_simp
          try with_reducible rfl
        simp only [Act.put, List.getElem_toArray, List.getElem_cons_succ, List.getElem_cons_zero, List.setIfInBounds_toArray, List.set_cons_zero, List.set_cons_succ]
        refine wpAnyH_take (i := 7) (v := ?_) rfl (by kernel_rfl) (by kernel_rfl) (by kernel_rfl) (fun _ _ _ h => h) (Or.inl ⟨by rfl, fun w0 hSw => ?_⟩) hHeld ?_
        rotate_left
        · (try dsimp only at hSw)
          go_simp
          try with_reducible rfl
        simp only [Act.put, List.getElem_toArray, List.getElem_cons_succ, List.getElem_cons_zero, List.setIfInBounds_toArray, List.set_cons_zero, List.set_cons_succ]
        refine wpAnyH_ready (rs := [8]) (by kernel_rfl) (by simp) ?_
        refine AllReadyH.cons (o := _) rfl (fun K hK => ?_) AllReadyH.nil
        go_simp
        go_at_call 107; refine (HCM.out _ _ _ (RA.out.ext XE) (RB.out.ext XE)).mono ?_; rintro e w6 ⟨_, rfl, b6, rfl⟩; (first | have XE := Ext.trans XE b6 | have XE := Ext.trans (Ext.trans XE (Ext.alloc _ _)) b6)
        go_wp2_with fail
        refine hK.out _ _ (⟨(CA.out.ext XE).c6, (CB.out.ext XE).c6⟩) (fun hHeld => ?_)
        clear hK K
        try simp only [Act.put, List.getElem_toArray, List.getElem_cons_succ, List.getElem_cons_zero, List.setIfInBounds_toArray, List.set_cons_zero, List.set_cons_succ]
        refine wpAnyH_take (i := 9) (v := ?_) rfl (by kernel_rfl) (by kernel_rfl) (by kernel_rfl) (fun _ _ _ h => h) (Or.inl ⟨by rfl, fun w0 hSw => ?_⟩) hHeld ?_
        rotate_left
        · (try dsimp only at hSw)
          go_simp
          try with_reducible rfl
        simp only [Act.put, List.getElem_toArray, List.getElem_cons_succ, List.getElem_cons_zero, List.setIfInBounds_toArray, List.set_cons_zero, List.set_cons_succ]
        refine wpAnyH_done (by kernel_rfl) ?_ _
        refine NoPanic.normal ?_
        have X6 := Lib.hid XE
        by_cases ht : 0 < t
        · have hC : none = chz (A.zip B) 1 := by have := HC.out; rwa [if_pos ht] at this
          rw [decide_eq_true ht]
          clear ht HC
          rw [← hC] at hR
          clear hC
          go_wp2_with fail
          refine (r5int_any (u := 0) (by omega)).mono ?_
          rintro e w7 ⟨v7, rfl, b7, o7⟩
          obtain ⟨z0, d3, n3, e3, d4, n4, e4, rfl, O7⟩ := o7.op
          have b17 := Ext.trans b2 (Ext.trans b4 (Ext.trans X6.out b7))
          obtain ⟨_, _, _, j0, j1, j2, i0, i1, i2⟩ := (R1.out.ext b17).rm.c3
          clear o7
          go_wp2_with fail
          refine bodyPost_ret (v := .tuple #[.agg #[.bool z0, .slice d3 n3 e3, .slice d4 n4 e4], .bool false]) (by simp [results, Try.results59, go_sem, j0, j1, j2]) rfl ?_
          exact hR.out _ _ (Gives.mk (put3_below (Ext.trans b1 b17) (Nat.le_refl _) _ _ _) ⟨_, _, _, _, _, _, _, rfl⟩)
        · have HC1 : Hid ((if sg ≤ 0 then chz ((A.zip B).drop (k + 1)) m else chz ((A.zip B).drop (k + 1)) (lst m ((y.1 - p.1) / (p.2 - y.2)))) = chz (A.zip B) 1) := by have := HC.out; rwa [if_neg ht] at this
          rw [decide_eq_false ht]
          clear ht HC
          go_upto_region 9 with (fail)
          generalize w6 = w7 at *
          have b07 := Ext.trans b04 X6.out
          have QA1 : Hid (RdP w7 (.agg #[x0, x1, x2]) p.1) := RdE.fst3 (HA.out.rd.ext b07)
          have QA2 : Hid (RdP w7 (.agg #[x3, x4, x5]) p.2) := RdE.snd3 (HA.out.rd.ext b07)
          have QB1 : Hid (RdP w7 (.agg #[y0, y1, y2]) y.1) := RdE.fst3 (HB.out.rd.ext b07)
          have QB2 : Hid (RdP w7 (.agg #[y3, y4, y5]) y.2) := RdE.snd3 (HB.out.rd.ext b07)
          have C7 := Lib.hid (Bo.ext CA.out X6.out)
          have D7 := Lib.hid (Bo.ext CB.out X6.out)
          have SZC := Lib.hid C7.out.lt
          have SZD := Lib.hid D7.out.lt
          have z1 : Sz 17 (y.1 - p.1) := by rw [Rat.sub_eq_add_neg]; exact (S3.out.1.add S2.out.1.neg)
          have z2 : Sz 17 (p.2 - y.2) := by rw [Rat.sub_eq_add_neg]; exact (S2.out.2.add S3.out.2.neg)
          have HN1 : Hid (∀ w v, RdP w v y.2 → Calls Try.prog 22 #[v] w (Gives w fun v' w' => RdP w' v' (-y.2))) := fun w v h => r5neg_any h
          have HN2 : Hid (∀ w v, RdP w v p.1 → Calls Try.prog 22 #[v] w (Gives w fun v' w' => RdP w' v' (-p.1))) := fun w v h => r5neg_any h
          have HA1 : Hid (∀ w va vb, RdP w va p.2 → RdP w vb (-y.2) → Calls Try.prog 20 #[va, vb] w (Gives w fun v' w' => OwnP 4 0 w' v' (p.2 - y.2))) := fun w va vb h1 h2 => by
            rw [Rat.sub_eq_add_neg]
            exact (r5add_any h1 h2 (S2.out.2.bits.le (by decide)) (S3.out.2.neg.bits.le (by decide))).mono fun _ _ ⟨v, e, b, o⟩ => ⟨v, e, b, o.mono (Nat.zero_le _)⟩
          have HA2 : Hid (∀ w va vb, RdP w va y.1 → RdP w vb (-p.1) → Calls Try.prog 20 #[va, vb] w (Gives w fun v' w' => OwnP 4 0 w' v' (y.1 - p.1))) := fun w va vb h1 h2 => by
            rw [Rat.sub_eq_add_neg]
            exact (r5add_any h1 h2 (S3.out.1.bits.le (by decide)) (S2.out.1.neg.bits.le (by decide))).mono fun _ _ ⟨v, e, b, o⟩ => ⟨v, e, b, o.mono (Nat.zero_le _)⟩
          have HIV : Hid (∀ w v, 0 < sg → RdP w v (p.2 - y.2) → Calls Try.prog 109 #[v] w (Gives w fun v' w' => RdP w' v' (p.2 - y.2)⁻¹)) := fun w v h h1 => r5inv_any h1 (HNZ.out h)
          have HML : Hid (∀ w va vb, RdP w va (y.1 - p.1) → RdP w vb (p.2 - y.2)⁻¹ → Calls Try.prog 25 #[va, vb] w (Gives w fun v' w' => OwnP 4 0 w' v' ((y.1 - p.1) / (p.2 - y.2)))) := fun w va vb h1 h2 => by
            rw [Rat.div_def]
            exact (r5mul_any h1 h2 (z1.bits.le (by decide)) (z2.inv.bits.le (by decide))).mono fun _ _ ⟨v, e, b, o⟩ => ⟨v, e, b, o.mono (Nat.zero_le _)⟩
          have SQ : Hid (Sz 50 ((y.1 - p.1) / (p.2 - y.2))) := by
            show Sz _ _
            rw [Rat.div_def]
            exact (z1.mul z2.inv).le (by decide)
          clear z1 z2 HCM HNZ
          generalize (y.1 - p.1) / (p.2 - y.2) = dq at *
          generalize (p.2 - y.2)⁻¹ = fi at *
          generalize y.1 - p.1 = f1 at *
          generalize p.2 - y.2 = f2 at *
          generalize -y.2 = ny at *
          generalize -p.1 = np at *
          go_cut [8] (fun s8 wx => ∃ E, s8 = .pointer (some ⟨E, 0, none⟩) ∧ Ext w7 wx ∧ Hid (BP wx E f2))
          case first =>
            refine wp_region_noPanic ?_
            refine wp_region_held_drew (S := fun w' => (w'.cell? ⟨b, off + k * 6, none⟩ = some (x0) ∧ w'.cell? ⟨b, off + k * 6 + 1, none⟩ = some (x1) ∧ w'.cell? ⟨b, off + k * 6 + 2, none⟩ = some (x2) ∧ w'.cell? ⟨b, off + k * 6 + 3, none⟩ = some (x3) ∧ w'.cell? ⟨b, off + k * 6 + 4, none⟩ = some (x4) ∧ w'.cell? ⟨b, off + k * 6 + 5, none⟩ = some (x5)) ∧ (w'.cell? ⟨b', off' + k * 6, none⟩ = some (y0) ∧ w'.cell? ⟨b', off' + k * 6 + 1, none⟩ = some (y1) ∧ w'.cell? ⟨b', off' + k * 6 + 2, none⟩ = some (y2) ∧ w'.cell? ⟨b', off' + k * 6 + 3, none⟩ = some (y3) ∧ w'.cell? ⟨b', off' + k * 6 + 4, none⟩ = some (y4) ∧ w'.cell? ⟨b', off' + k * 6 + 5, none⟩ = some (y5))) (by kernel_rfl) (⟨(C7.out.ext (drew_ext w7)).c6, (D7.out.ext (drew_ext w7)).c6⟩) (fun hHeld => ?_)
            refine wpAnyH_take (i := 0) (v := ?_) rfl (by kernel_rfl) (by kernel_rfl) (by kernel_rfl) (fun _ _ _ h => h) (Or.inl ⟨by rfl, fun w0 hSw => ?_⟩) hHeld ?_
            rotate_left
            · (try dsimp only at hSw)
              go_simp
              try with_reducible rfl
            simp only [Act.put, List.getElem_toArray, List.getElem_cons_succ, List.getElem_cons_zero, List.setIfInBounds_toArray, List.set_cons_zero, List.set_cons_succ]
            refine wpAnyH_take (i := 1) (v := ?_) rfl (by kernel_rfl) (by kernel_rfl) (by kernel_rfl) (fun _ _ _ h => h) (Or.inl ⟨by rfl, fun w0 hSw => ?_⟩) hHeld ?_
            rotate_left
            · (try dsimp only at hSw)
              go_simp
              try with_reducible rfl
            simp only [Act.put, List.getElem_toArray, List.getElem_cons_succ, List.getElem_cons_zero, List.setIfInBounds_toArray, List.set_cons_zero, List.set_cons_succ]
            refine wpAnyH_take (i := 5) (v := ?_) rfl (by kernel_rfl) (by kernel_rfl) (by kernel_rfl) (fun _ _ _ h => h) (Or.inl ⟨by rfl, fun w0 hSw => ?_⟩) hHeld ?_
            rotate_left
            · (try dsimp only at hSw)
              go_simp
              try with_reducible rfl
            simp only [Act.put, List.getElem_toArray, List.getElem_cons_succ, List.getElem_cons_zero, List.setIfInBounds_toArray, List.set_cons_zero, List.set_cons_succ]
            refine wpAnyH_take (i := 6) (v := ?_) rfl (by kernel_rfl) (by kernel_rfl) (by kernel_rfl) (fun _ _ _ h => h) (Or.inl ⟨by rfl, fun w0 hSw => ?_⟩) hHeld ?_
            rotate_left
            · (try dsimp only at hSw)
              go_simp
              try with_reducible rfl
            simp only [Act.put, List.getElem_toArray, List.getElem_cons_succ, List.getElem_cons_zero, List.setIfInBounds_toArray, List.set_cons_zero, List.set_cons_succ]
            refine wpAnyH_take (i := 2) (v := ?_) rfl (by kernel_rfl) (by kernel_rfl) (by kernel_rfl) (fun _ _ _ h => h) (Or.inl ⟨by rfl, fun w0 hSw => ?_⟩) hHeld ?_
            rotate_left
            · (try dsimp only at hSw)
              go_simp
              try with_reducible rfl
            simp only [Act.put, List.getElem_toArray, List.getElem_cons_succ, List.getElem_cons_zero, List.setIfInBounds_toArray, List.set_cons_zero, List.set_cons_succ]
            refine wpAnyH_take (i := 7) (v := ?_) rfl (by kernel_rfl) (by kernel_rfl) (by kernel_rfl) (fun _ _ _ h => h) (Or.inl ⟨by rfl, fun w0 hSw => ?_⟩) hHeld ?_
            rotate_left
            · (try dsimp only at hSw)
              go_simp
              try with_reducible rfl
            simp only [Act.put, List.getElem_toArray, List.getElem_cons_succ, List.getElem_cons_zero, List.setIfInBounds_toArray, List.set_cons_zero, List.set_cons_succ]
            refine wpAnyH_take (i := 3) (v := ?_) rfl (by kernel_rfl) (by kernel_rfl) (by kernel_rfl) (fun _ _ _ h => h) (Or.inl ⟨by rfl, fun w0 hSw => ?_⟩) hHeld ?_
            rotate_left
            · (try dsimp only at hSw)
              go_simp
              try with_reducible rfl
            simp only [Act.put, List.getElem_toArray, List.getElem_cons_succ, List.getElem_cons_zero, List.setIfInBounds_toArray, List.set_cons_zero, List.set_cons_succ]
            refine wpAnyH_take (i := 8) (v := ?_) rfl (by kernel_rfl) (by kernel_rfl) (by kernel_rfl) (fun _ _ _ h => h) (Or.inl ⟨by rfl, fun w0 hSw => ?_⟩) hHeld ?_
            rotate_left
            · (try dsimp only at hSw)
              go_simp
              try with_reducible rfl
            simp only [Act.put, List.getElem_toArray, List.getElem_cons_succ, List.getElem_cons_zero, List.setIfInBounds_toArray, List.set_cons_zero, List.set_cons_succ]
            refine wpAnyH_take (i := 4) (v := ?_) rfl (by kernel_rfl) (by kernel_rfl) (by kernel_rfl) (fun _ _ _ h => h) (Or.inl ⟨by rfl, fun w0 hSw => ?_⟩) hHeld ?_
            rotate_left
            · (try dsimp only at hSw)
              go_simp
              try with_reducible rfl
            simp only [Act.put, List.getElem_toArray, List.getElem_cons_succ, List.getElem_cons_zero, List.setIfInBounds_toArray, List.set_cons_zero, List.set_cons_succ]
            refine wpAnyH_take (i := 9) (v := ?_) rfl (by kernel_rfl) (by kernel_rfl) (by kernel_rfl) (fun _ _ _ h => h) (Or.inl ⟨by rfl, fun w0 hSw => ?_⟩) hHeld ?_
            rotate_left
            · (try dsimp only at hSw)
              go_simp
              try with_reducible rfl
            simp only [Act.put, List.getElem_toArray, List.getElem_cons_succ, List.getElem_cons_zero, List.setIfInBounds_toArray, List.set_cons_zero, List.set_cons_succ]
            refine anyH_cap fun O Q9 AA hO hQ hA => ?_
            obtain ⟨SS, hSS⟩ : ∃ SS : World → Prop, Hid (SS = fun w' => (w'.cell? ⟨b, off + k * 6, none⟩ = some (x0) ∧ w'.cell? ⟨b, off + k * 6 + 1, none⟩ = some (x1) ∧ w'.cell? ⟨b, off + k * 6 + 2, none⟩ = some (x2) ∧ w'.cell? ⟨b, off + k * 6 + 3, none⟩ = some (x3) ∧ w'.cell? ⟨b, off + k * 6 + 4, none⟩ = some (x4) ∧ w'.cell? ⟨b, off + k * 6 + 5, none⟩ = some (x5)) ∧ (w'.cell? ⟨b', off' + k * 6, none⟩ = some (y0) ∧ w'.cell? ⟨b', off' + k * 6 + 1, none⟩ = some (y1) ∧ w'.cell? ⟨b', off' + k * 6 + 2, none⟩ = some (y2) ∧ w'.cell? ⟨b', off' + k * 6 + 3, none⟩ = some (y3) ∧ w'.cell? ⟨b', off' + k * 6 + 4, none⟩ = some (y4) ∧ w'.cell? ⟨b', off' + k * 6 + 5, none⟩ = some (y5))) := ⟨_, rfl⟩
            have KP : Hid (∀ wv, Ext w7 wv → SS wv) := fun wv XE => by rw [hSS.out]; exact ⟨(C7.out.ext XE).c6, (D7.out.ext XE).c6⟩
            have L2_12 : ∀ (wv : World) (v10 v11 : Value) (B12 : Nat), Hid (Ext w7 wv) → Hid (RdP wv v10 ny) → Hid (OwnP 4 0 wv v11 f2) → Hid (Rt wv B12 3 33) → Hid (w7.heap.size ≤ B12) → wpAnyH Try.prog .any O Q9 SS 1 #[true, true, true, true, true, true, true, true, true, true, true, true, true, false] (((AA.put (some 43) v10).put (some 44) v11).put (some 8) (.pointer (some ⟨B12, 0, none⟩))) wv := by
              intro wv v10 v11 B12 hX p10 p11 r12 s12
              have hO1 := hO.out
              have hQ1 := hQ.out
              have hA1 := hA.out
              subst hO1
              subst hQ1
              subst hA1
              have XE := hX.out
              have hS1 := hSS.out
              subst hS1
              have hHeld : (fun w' => (w'.cell? ⟨b, off + k * 6, none⟩ = some (x0) ∧ w'.cell? ⟨b, off + k * 6 + 1, none⟩ = some (x1) ∧ w'.cell? ⟨b, off + k * 6 + 2, none⟩ = some (x2) ∧ w'.cell? ⟨b, off + k * 6 + 3, none⟩ = some (x3) ∧ w'.cell? ⟨b, off + k * 6 + 4, none⟩ = some (x4) ∧ w'.cell? ⟨b, off + k * 6 + 5, none⟩ = some (x5)) ∧ (w'.cell? ⟨b', off' + k * 6, none⟩ = some (y0) ∧ w'.cell? ⟨b', off' + k * 6 + 1, none⟩ = some (y1) ∧ w'.cell? ⟨b', off' + k * 6 + 2, none⟩ = some (y2) ∧ w'.cell? ⟨b', off' + k * 6 + 3, none⟩ = some (y3) ∧ w'.cell? ⟨b', off' + k * 6 + 4, none⟩ = some (y4) ∧ w'.cell? ⟨b', off' + k * 6 + 5, none⟩ = some (y5))) wv := ⟨(C7.out.ext XE).c6, (D7.out.ext XE).c6⟩
              try simp only [Act.put, List.getElem_toArray, List.getElem_cons_succ, List.getElem_cons_zero, List.setIfInBounds_toArray, List.set_cons_zero, List.set_cons_succ]
              have k0_12 : b ≠ B12 := by have h1 := s12.out; have hz0 := SZC.out; have hz1 := SZD.out; omega
              have k1_12 : b' ≠ B12 := by have h1 := s12.out; have hz0 := SZC.out; have hz1 := SZD.out; omega
              obtain ⟨_, _, _, i12_0, i12_1, i12_2, f12_0, f12_1, f12_2⟩ := r12.out.rm.c3
              obtain ⟨_, _, _, _, _, _, _, rfl, OO⟩ := p11.out.op
              refine wpAnyH_ready (rs := [13]) (by kernel_rfl) (by simp) ?_
              refine AllReadyH.cons (o := _) rfl (fun K hK => ?_) AllReadyH.nil
              go_simp
              refine hK.out _ _ (⟨((C7.out.ext XE).putL k0_12 0 [_, _, _]).c6, ((D7.out.ext XE).putL k1_12 0 [_, _, _]).c6⟩) (fun hHeld => ?_)
              clear hK K
              try simp only [Act.put, List.getElem_toArray, List.getElem_cons_succ, List.getElem_cons_zero, List.setIfInBounds_toArray, List.set_cons_zero, List.set_cons_succ]
              refine wpAnyH_done (by kernel_rfl) ?_ _
              refine NoPanic.normal ?_
              go_wp2_with fail
              go_meet
              exact ⟨B12, rfl, put3_below hX.out s12.out _ _ _, Bp.set r12.out (by decide) OO.out⟩
            have L1_12 : ∀ (wv : World) (v10 : Value) (B12 : Nat), Hid (Ext w7 wv) → Hid (RdP wv v10 ny) → Hid (Rt wv B12 3 33) → Hid (w7.heap.size ≤ B12) → wpAnyH Try.prog .any O Q9 SS 2 #[true, true, true, true, true, true, true, true, true, true, true, false, true, false] ((AA.put (some 43) v10).put (some 8) (.pointer (some ⟨B12, 0, none⟩))) wv := by
              intro wv v10 B12 hX p10 r12 s12
              have hO1 := hO.out
              have hQ1 := hQ.out
              have hA1 := hA.out
              subst hO1
              subst hQ1
              subst hA1
              have XE := hX.out
              try simp only [Act.put, List.getElem_toArray, List.getElem_cons_succ, List.getElem_cons_zero, List.setIfInBounds_toArray, List.set_cons_zero, List.set_cons_succ]
              refine wpAnyH_ready (rs := [11]) (by kernel_rfl) (by simp) ?_
              refine AllReadyH.cons (o := _) rfl (fun K hK => ?_) AllReadyH.nil
              go_simp
              go_at_call 20
              refine (HA1.out _ _ _ (QA2.out.ext XE) p10.out).mono ?_
              rintro e wn ⟨vn, rfl, bn, on⟩
              go_wp2_with fail
              refine hK.out _ _ (KP.out _ (Ext.trans XE bn)) (fun _ => ?_)
              clear hK K
              try simp only [Act.put, List.getElem_toArray, List.getElem_cons_succ, List.getElem_cons_zero, List.setIfInBounds_toArray, List.set_cons_zero, List.set_cons_succ]
              exact wpAnyH_at (L2_12 wn v10 vn B12 (Ext.trans XE bn) (p10.out.ext bn) (on) (r12.out.ext bn) s12) (by kernel_rfl) (by kernel_rfl) (by kernel_rfl)
            have L2_ : ∀ (wv : World) (v10 v11 : Value), Hid (Ext w7 wv) → Hid (RdP wv v10 ny) → Hid (OwnP 4 0 wv v11 f2) → wpAnyH Try.prog .any O Q9 SS 2 #[true, true, true, true, true, true, true, true, true, true, true, true, false, false] ((AA.put (some 43) v10).put (some 44) v11) wv := by
              intro wv v10 v11 hX p10 p11
              have hO1 := hO.out
              have hQ1 := hQ.out
              have hA1 := hA.out
              subst hO1
              subst hQ1
              subst hA1
              have XE := hX.out
              try simp only [Act.put, List.getElem_toArray, List.getElem_cons_succ, List.getElem_cons_zero, List.setIfInBounds_toArray, List.set_cons_zero, List.set_cons_succ]
              refine wpAnyH_ready (rs := [12]) (by kernel_rfl) (by simp) ?_
              refine AllReadyH.cons (o := _) rfl (fun K hK => ?_) AllReadyH.nil
              go_simp
              refine hK.out _ _ (KP.out _ (Ext.trans XE (Ext.alloc _ _))) (fun _ => ?_)
              clear hK K
              try simp only [Act.put, List.getElem_toArray, List.getElem_cons_succ, List.getElem_cons_zero, List.setIfInBounds_toArray, List.set_cons_zero, List.set_cons_succ]
              exact wpAnyH_at (L2_12 _ v10 v11 wv.heap.size (Ext.trans XE (Ext.alloc wv (.cells [.bool false, .slice none 0 0, .slice none 0 0].toArray 33))) (p10.out.ext (Ext.alloc wv (.cells [.bool false, .slice none 0 0, .slice none 0 0].toArray 33))) (p11.out.ext (Ext.alloc wv (.cells [.bool false, .slice none 0 0, .slice none 0 0].toArray 33))) (Rt.new wv [.bool false, .slice none 0 0, .slice none 0 0] 33) (Below.size XE)) (by kernel_rfl) (by kernel_rfl) (by kernel_rfl)
            have L0_12 : ∀ (wv : World) (B12 : Nat), Hid (Ext w7 wv) → Hid (Rt wv B12 3 33) → Hid (w7.heap.size ≤ B12) → wpAnyH Try.prog .any O Q9 SS 3 #[true, true, true, true, true, true, true, true, true, true, false, false, true, false] (AA.put (some 8) (.pointer (some ⟨B12, 0, none⟩))) wv := by
              intro wv B12 hX r12 s12
              have hO1 := hO.out
              have hQ1 := hQ.out
              have hA1 := hA.out
              subst hO1
              subst hQ1
              subst hA1
              have XE := hX.out
              try simp only [Act.put, List.getElem_toArray, List.getElem_cons_succ, List.getElem_cons_zero, List.setIfInBounds_toArray, List.set_cons_zero, List.set_cons_succ]
              refine wpAnyH_ready (rs := [10]) (by kernel_rfl) (by simp) ?_
              refine AllReadyH.cons (o := _) rfl (fun K hK => ?_) AllReadyH.nil
              go_simp
              go_at_call 22
              refine (HN1.out _ _ (QB2.out.ext XE)).mono ?_
              rintro e wn ⟨vn, rfl, bn, on⟩
              go_wp2_with fail
              refine hK.out _ _ (KP.out _ (Ext.trans XE bn)) (fun _ => ?_)
              clear hK K
              try simp only [Act.put, List.getElem_toArray, List.getElem_cons_succ, List.getElem_cons_zero, List.setIfInBounds_toArray, List.set_cons_zero, List.set_cons_succ]
              exact wpAnyH_at (L1_12 wn vn B12 (Ext.trans XE bn) (on) (r12.out.ext bn) s12) (by kernel_rfl) (by kernel_rfl) (by kernel_rfl)
            have L1_ : ∀ (wv : World) (v10 : Value), Hid (Ext w7 wv) → Hid (RdP wv v10 ny) → wpAnyH Try.prog .any O Q9 SS 3 #[true, true, true, true, true, true, true, true, true, true, true, false, false, false] (AA.put (some 43) v10) wv := by
              intro wv v10 hX p10
              have hO1 := hO.out
              have hQ1 := hQ.out
              have hA1 := hA.out
              subst hO1
              subst hQ1
              subst hA1
              have XE := hX.out
              try simp only [Act.put, List.getElem_toArray, List.getElem_cons_succ, List.getElem_cons_zero, List.setIfInBounds_toArray, List.set_cons_zero, List.set_cons_succ]
              refine wpAnyH_ready (rs := [11, 12]) (by kernel_rfl) (by simp) ?_
              refine AllReadyH.cons (o := _) rfl (fun K hK => ?_) (AllReadyH.cons (o := _) rfl (fun K hK => ?_) AllReadyH.nil)
              · skip
                go_simp
                go_at_call 20
                refine (HA1.out _ _ _ (QA2.out.ext XE) p10.out).mono ?_
                rintro e wn ⟨vn, rfl, bn, on⟩
                go_wp2_with fail
                refine hK.out _ _ (KP.out _ (Ext.trans XE bn)) (fun _ => ?_)
                clear hK K
                try simp only [Act.put, List.getElem_toArray, List.getElem_cons_succ, List.getElem_cons_zero, List.setIfInBounds_toArray, List.set_cons_zero, List.set_cons_succ]
                exact wpAnyH_at (L2_ wn v10 vn (Ext.trans XE bn) (p10.out.ext bn) (on)) (by kernel_rfl) (by kernel_rfl) (by kernel_rfl)
              · skip
                go_simp
                refine hK.out _ _ (KP.out _ (Ext.trans XE (Ext.alloc _ _))) (fun _ => ?_)
                clear hK K
                try simp only [Act.put, List.getElem_toArray, List.getElem_cons_succ, List.getElem_cons_zero, List.setIfInBounds_toArray, List.set_cons_zero, List.set_cons_succ]
                exact wpAnyH_at (L1_12 _ v10 wv.heap.size (Ext.trans XE (Ext.alloc wv (.cells [.bool false, .slice none 0 0, .slice none 0 0].toArray 33))) (p10.out.ext (Ext.alloc wv (.cells [.bool false, .slice none 0 0, .slice none 0 0].toArray 33))) (Rt.new wv [.bool false, .slice none 0 0, .slice none 0 0] 33) (Below.size XE)) (by kernel_rfl) (by kernel_rfl) (by kernel_rfl)
            have L0_ : ∀ (wv : World), Hid (Ext w7 wv) → wpAnyH Try.prog .any O Q9 SS 4 #[true, true, true, true, true, true, true, true, true, true, false, false, false, false] AA wv := by
              intro wv hX
              have hO1 := hO.out
              have hQ1 := hQ.out
              have hA1 := hA.out
              subst hO1
              subst hQ1
              subst hA1
              have XE := hX.out
              try simp only [Act.put, List.getElem_toArray, List.getElem_cons_succ, List.getElem_cons_zero, List.setIfInBounds_toArray, List.set_cons_zero, List.set_cons_succ]
              refine wpAnyH_ready (rs := [10, 12]) (by kernel_rfl) (by simp) ?_
              refine AllReadyH.cons (o := _) rfl (fun K hK => ?_) (AllReadyH.cons (o := _) rfl (fun K hK => ?_) AllReadyH.nil)
              · skip
                go_simp
                go_at_call 22
                refine (HN1.out _ _ (QB2.out.ext XE)).mono ?_
                rintro e wn ⟨vn, rfl, bn, on⟩
                go_wp2_with fail
                refine hK.out _ _ (KP.out _ (Ext.trans XE bn)) (fun _ => ?_)
                clear hK K
                try simp only [Act.put, List.getElem_toArray, List.getElem_cons_succ, List.getElem_cons_zero, List.setIfInBounds_toArray, List.set_cons_zero, List.set_cons_succ]
                exact wpAnyH_at (L1_ wn vn (Ext.trans XE bn) (on)) (by kernel_rfl) (by kernel_rfl) (by kernel_rfl)
              · skip
                go_simp
                refine hK.out _ _ (KP.out _ (Ext.trans XE (Ext.alloc _ _))) (fun _ => ?_)
                clear hK K
                try simp only [Act.put, List.getElem_toArray, List.getElem_cons_succ, List.getElem_cons_zero, List.setIfInBounds_toArray, List.set_cons_zero, List.set_cons_succ]
                exact wpAnyH_at (L0_12 _ wv.heap.size (Ext.trans XE (Ext.alloc wv (.cells [.bool false, .slice none 0 0, .slice none 0 0].toArray 33))) (Rt.new wv [.bool false, .slice none 0 0, .slice none 0 0] 33) (Below.size XE)) (by kernel_rfl) (by kernel_rfl) (by kernel_rfl)
            have hO1 := hO.out
            have hQ1 := hQ.out
            have hA1 := hA.out
            subst hO1
            subst hQ1
            subst hA1
            have hS1 := hSS.out
            subst hS1
            exact wpAnyH_at (L0_ w7.drew (drew_ext w7)) (by kernel_rfl) (by kernel_rfl) (by kernel_rfl)
          case rest =>
            obtain ⟨E, rfl, b8, HE⟩ := hcut
            generalize wc = w8 at *
            obtain ⟨z3, d5, n5, e5, d6, n6, e6, T4, T5, T6⟩ := HE.out.op
            obtain ⟨q0, q1, q2⟩ := T4.out.c3
            go_upto_region 10 with (fail)
            go_upto_if 47 with (go_at_call 108; refine (HSG.out _ _ T6.out.rd).mono ?_; rintro e w9 ⟨_, rfl, b9, rfl⟩)
            clear q0 q1 q2
            by_cases hs : sg ≤ 0
            · have HC2 : Hid (chz ((A.zip B).drop (k + 1)) m = chz (A.zip B) 1) := by have := HC1.out; rwa [if_pos hs] at this
              rw [decide_eq_false (Int.not_lt.2 hs)]
              go_wp2_with fail
              go_roundw
              case rel => exact ⟨k + 1, m, by go_num, by omega, Ext.trans b4 (Ext.trans X6.out (Ext.trans b8 b9)), hB.out.ext (Ext.trans X6.out (Ext.trans b8 b9)), hS, HC2⟩
              case measure => simp [intOf] <;> omega
            · have HC2 : Hid (chz ((A.zip B).drop (k + 1)) (lst m dq) = chz (A.zip B) 1) := by have := HC1.out; rwa [if_neg hs] at this
              have HS0 : Hid (0 < sg) := Int.not_le.1 hs
              rw [decide_eq_true (Int.not_le.1 hs)]
              clear hs HC1
              go_upto_region 11 with (fail)
              have C9 := Lib.hid (Bo.ext C7.out (Ext.trans b8 b9))
              have D9 := Lib.hid (Bo.ext D7.out (Ext.trans b8 b9))
              have T9 := Lib.hid (T4.out.ext b9)
              have P9 := Lib.hid (QA1.out.ext (Ext.trans b8 b9))
              have Y9 := Lib.hid (QB1.out.ext (Ext.trans b8 b9))
              have U9 := Lib.hid (T6.out.rd.ext b9)
              have SZC9 := Lib.hid C9.out.lt
              have SZD9 := Lib.hid D9.out.lt
              have SZE9 : Hid (E < w9.heap.size) := World.block_lt_of_cell? _ _ T9.out.c3.1
              go_cut [9] (fun s9 wx => ∃ F, s9 = .pointer (some ⟨F, 0, none⟩) ∧ Ext w9 wx ∧ Hid (BP wx F dq))
              case first =>
                refine wp_region_noPanic ?_
                refine wp_region_held_drew (S := fun w' => (w'.cell? ⟨b, off + k * 6, none⟩ = some (x0) ∧ w'.cell? ⟨b, off + k * 6 + 1, none⟩ = some (x1) ∧ w'.cell? ⟨b, off + k * 6 + 2, none⟩ = some (x2) ∧ w'.cell? ⟨b, off + k * 6 + 3, none⟩ = some (x3) ∧ w'.cell? ⟨b, off + k * 6 + 4, none⟩ = some (x4) ∧ w'.cell? ⟨b, off + k * 6 + 5, none⟩ = some (x5)) ∧ (w'.cell? ⟨b', off' + k * 6, none⟩ = some (y0) ∧ w'.cell? ⟨b', off' + k * 6 + 1, none⟩ = some (y1) ∧ w'.cell? ⟨b', off' + k * 6 + 2, none⟩ = some (y2) ∧ w'.cell? ⟨b', off' + k * 6 + 3, none⟩ = some (y3) ∧ w'.cell? ⟨b', off' + k * 6 + 4, none⟩ = some (y4) ∧ w'.cell? ⟨b', off' + k * 6 + 5, none⟩ = some (y5)) ∧ (w'.cell? ⟨E, 0, none⟩ = some (.bool z3) ∧ w'.cell? ⟨E, 1, none⟩ = some (.slice d5 n5 e5) ∧ w'.cell? ⟨E, 2, none⟩ = some (.slice d6 n6 e6))) (by kernel_rfl) (⟨(C9.out.ext (drew_ext w9)).c6, (D9.out.ext (drew_ext w9)).c6, (T9.out.ext (drew_ext w9)).c3⟩) (fun hHeld => ?_)
                refine wpAnyH_take (i := 0) (v := ?_) rfl (by kernel_rfl) (by kernel_rfl) (by kernel_rfl) (fun _ _ _ h => h) (Or.inl ⟨by rfl, fun w0 hSw => ?_⟩) hHeld ?_
                rotate_left
                · (try dsimp only at hSw)
                  go_simp
                  try with_reducible rfl
                simp only [Act.put, List.getElem_toArray, List.getElem_cons_succ, List.getElem_cons_zero, List.setIfInBounds_toArray, List.set_cons_zero, List.set_cons_succ]
                refine wpAnyH_take (i := 1) (v := ?_) rfl (by kernel_rfl) (by kernel_rfl) (by kernel_rfl) (fun _ _ _ h => h) (Or.inl ⟨by rfl, fun w0 hSw => ?_⟩) hHeld ?_
                rotate_left
                · (try dsimp only at hSw)
                  go_simp
                  try with_reducible rfl
                simp only [Act.put, List.getElem_toArray, List.getElem_cons_succ, List.getElem_cons_zero, List.setIfInBounds_toArray, List.set_cons_zero, List.set_cons_succ]
                refine wpAnyH_take (i := 5) (v := ?_) rfl (by kernel_rfl) (by kernel_rfl) (by kernel_rfl) (fun _ _ _ h => h) (Or.inl ⟨by rfl, fun w0 hSw => ?_⟩) hHeld ?_
                rotate_left
                · (try dsimp only at hSw)
                  go_simp
                  try with_reducible rfl
                simp only [Act.put, List.getElem_toArray, List.getElem_cons_succ, List.getElem_cons_zero, List.setIfInBounds_toArray, List.set_cons_zero, List.set_cons_succ]
                refine wpAnyH_take (i := 6) (v := ?_) rfl (by kernel_rfl) (by kernel_rfl) (by kernel_rfl) (fun _ _ _ h => h) (Or.inl ⟨by rfl, fun w0 hSw => ?_⟩) hHeld ?_
                rotate_left
                · (try dsimp only at hSw)
                  go_simp
                  try with_reducible rfl
                simp only [Act.put, List.getElem_toArray, List.getElem_cons_succ, List.getElem_cons_zero, List.setIfInBounds_toArray, List.set_cons_zero, List.set_cons_succ]
                refine wpAnyH_take (i := 12) (v := ?_) rfl (by kernel_rfl) (by kernel_rfl) (by kernel_rfl) (fun _ _ _ h => h) (Or.inl ⟨by rfl, fun w0 hSw => ?_⟩) hHeld ?_
                rotate_left
                · (try dsimp only at hSw)
                  go_simp
                  try with_reducible rfl
                simp only [Act.put, List.getElem_toArray, List.getElem_cons_succ, List.getElem_cons_zero, List.setIfInBounds_toArray, List.set_cons_zero, List.set_cons_succ]
                refine wpAnyH_take (i := 2) (v := ?_) rfl (by kernel_rfl) (by kernel_rfl) (by kernel_rfl) (fun _ _ _ h => h) (Or.inl ⟨by rfl, fun w0 hSw => ?_⟩) hHeld ?_
                rotate_left
                · (try dsimp only at hSw)
                  go_simp
                  try with_reducible rfl
                simp only [Act.put, List.getElem_toArray, List.getElem_cons_succ, List.getElem_cons_zero, List.setIfInBounds_toArray, List.set_cons_zero, List.set_cons_succ]
                refine wpAnyH_take (i := 7) (v := ?_) rfl (by kernel_rfl) (by kernel_rfl) (by kernel_rfl) (fun _ _ _ h => h) (Or.inl ⟨by rfl, fun w0 hSw => ?_⟩) hHeld ?_
                rotate_left
                · (try dsimp only at hSw)
                  go_simp
                  try with_reducible rfl
                simp only [Act.put, List.getElem_toArray, List.getElem_cons_succ, List.getElem_cons_zero, List.setIfInBounds_toArray, List.set_cons_zero, List.set_cons_succ]
                refine wpAnyH_take (i := 3) (v := ?_) rfl (by kernel_rfl) (by kernel_rfl) (by kernel_rfl) (fun _ _ _ h => h) (Or.inl ⟨by rfl, fun w0 hSw => ?_⟩) hHeld ?_
                rotate_left
                · (try dsimp only at hSw)
                  go_simp
                  try with_reducible rfl
                simp only [Act.put, List.getElem_toArray, List.getElem_cons_succ, List.getElem_cons_zero, List.setIfInBounds_toArray, List.set_cons_zero, List.set_cons_succ]
                refine wpAnyH_take (i := 8) (v := ?_) rfl (by kernel_rfl) (by kernel_rfl) (by kernel_rfl) (fun _ _ _ h => h) (Or.inl ⟨by rfl, fun w0 hSw => ?_⟩) hHeld ?_
                rotate_left
                · (try dsimp only at hSw)
                  go_simp
                  try with_reducible rfl
                simp only [Act.put, List.getElem_toArray, List.getElem_cons_succ, List.getElem_cons_zero, List.setIfInBounds_toArray, List.set_cons_zero, List.set_cons_succ]
                refine wpAnyH_take (i := 4) (v := ?_) rfl (by kernel_rfl) (by kernel_rfl) (by kernel_rfl) (fun _ _ _ h => h) (Or.inl ⟨by rfl, fun w0 hSw => ?_⟩) hHeld ?_
                rotate_left
                · (try dsimp only at hSw)
                  go_simp
                  try with_reducible rfl
                simp only [Act.put, List.getElem_toArray, List.getElem_cons_succ, List.getElem_cons_zero, List.setIfInBounds_toArray, List.set_cons_zero, List.set_cons_succ]
                refine wpAnyH_take (i := 9) (v := ?_) rfl (by kernel_rfl) (by kernel_rfl) (by kernel_rfl) (fun _ _ _ h => h) (Or.inl ⟨by rfl, fun w0 hSw => ?_⟩) hHeld ?_
                rotate_left
                · (try dsimp only at hSw)
                  go_simp
                  try with_reducible rfl
                simp only [Act.put, List.getElem_toArray, List.getElem_cons_succ, List.getElem_cons_zero, List.setIfInBounds_toArray, List.set_cons_zero, List.set_cons_succ]
                refine anyH_cap fun O Q9 AA hO hQ hA => ?_
                obtain ⟨SS, hSS⟩ : ∃ SS : World → Prop, Hid (SS = fun w' => (w'.cell? ⟨b, off + k * 6, none⟩ = some (x0) ∧ w'.cell? ⟨b, off + k * 6 + 1, none⟩ = some (x1) ∧ w'.cell? ⟨b, off + k * 6 + 2, none⟩ = some (x2) ∧ w'.cell? ⟨b, off + k * 6 + 3, none⟩ = some (x3) ∧ w'.cell? ⟨b, off + k * 6 + 4, none⟩ = some (x4) ∧ w'.cell? ⟨b, off + k * 6 + 5, none⟩ = some (x5)) ∧ (w'.cell? ⟨b', off' + k * 6, none⟩ = some (y0) ∧ w'.cell? ⟨b', off' + k * 6 + 1, none⟩ = some (y1) ∧ w'.cell? ⟨b', off' + k * 6 + 2, none⟩ = some (y2) ∧ w'.cell? ⟨b', off' + k * 6 + 3, none⟩ = some (y3) ∧ w'.cell? ⟨b', off' + k * 6 + 4, none⟩ = some (y4) ∧ w'.cell? ⟨b', off' + k * 6 + 5, none⟩ = some (y5)) ∧ (w'.cell? ⟨E, 0, none⟩ = some (.bool z3) ∧ w'.cell? ⟨E, 1, none⟩ = some (.slice d5 n5 e5) ∧ w'.cell? ⟨E, 2, none⟩ = some (.slice d6 n6 e6))) := ⟨_, rfl⟩
                have KP : Hid (∀ wv, Ext w9 wv → SS wv) := fun wv XE => by rw [hSS.out]; exact ⟨(C9.out.ext XE).c6, (D9.out.ext XE).c6, (T9.out.ext XE).c3⟩
                have L4_15 : ∀ (wv : World) (v10 v11 v13 v14 : Value) (B15 : Nat), Hid (Ext w9 wv) → Hid (RdP wv v10 np) → Hid (OwnP 4 0 wv v11 f1) → Hid (RdP wv v13 fi) → Hid (OwnP 4 0 wv v14 dq) → Hid (Rt wv B15 3 33) → Hid (w9.heap.size ≤ B15) → wpAnyH Try.prog .any O Q9 SS 1 #[true, true, true, true, true, true, true, true, true, true, true, true, true, true, true, true, false] (((((AA.put (some 58) v10).put (some 59) v11).put (some 61) v13).put (some 62) v14).put (some 9) (.pointer (some ⟨B15, 0, none⟩))) wv := by
                  intro wv v10 v11 v13 v14 B15 hX p10 p11 p13 p14 r15 s15
                  have hO1 := hO.out
                  have hQ1 := hQ.out
                  have hA1 := hA.out
                  subst hO1
                  subst hQ1
                  subst hA1
                  have XE := hX.out
                  have hS1 := hSS.out
                  subst hS1
                  have hHeld : (fun w' => (w'.cell? ⟨b, off + k * 6, none⟩ = some (x0) ∧ w'.cell? ⟨b, off + k * 6 + 1, none⟩ = some (x1) ∧ w'.cell? ⟨b, off + k * 6 + 2, none⟩ = some (x2) ∧ w'.cell? ⟨b, off + k * 6 + 3, none⟩ = some (x3) ∧ w'.cell? ⟨b, off + k * 6 + 4, none⟩ = some (x4) ∧ w'.cell? ⟨b, off + k * 6 + 5, none⟩ = some (x5)) ∧ (w'.cell? ⟨b', off' + k * 6, none⟩ = some (y0) ∧ w'.cell? ⟨b', off' + k * 6 + 1, none⟩ = some (y1) ∧ w'.cell? ⟨b', off' + k * 6 + 2, none⟩ = some (y2) ∧ w'.cell? ⟨b', off' + k * 6 + 3, none⟩ = some (y3) ∧ w'.cell? ⟨b', off' + k * 6 + 4, none⟩ = some (y4) ∧ w'.cell? ⟨b', off' + k * 6 + 5, none⟩ = some (y5)) ∧ (w'.cell? ⟨E, 0, none⟩ = some (.bool z3) ∧ w'.cell? ⟨E, 1, none⟩ = some (.slice d5 n5 e5) ∧ w'.cell? ⟨E, 2, none⟩ = some (.slice d6 n6 e6))) wv := ⟨(C9.out.ext XE).c6, (D9.out.ext XE).c6, (T9.out.ext XE).c3⟩
                  try simp only [Act.put, List.getElem_toArray, List.getElem_cons_succ, List.getElem_cons_zero, List.setIfInBounds_toArray, List.set_cons_zero, List.set_cons_succ]
                  have k0_15 : b ≠ B15 := by have h1 := s15.out; have hz0 := SZC9.out; have hz1 := SZD9.out; have hz2 := SZE9.out; omega
                  have k1_15 : b' ≠ B15 := by have h1 := s15.out; have hz0 := SZC9.out; have hz1 := SZD9.out; have hz2 := SZE9.out; omega
                  have k2_15 : E ≠ B15 := by have h1 := s15.out; have hz0 := SZC9.out; have hz1 := SZD9.out; have hz2 := SZE9.out; omega
                  obtain ⟨_, _, _, i15_0, i15_1, i15_2, f15_0, f15_1, f15_2⟩ := r15.out.rm.c3
                  obtain ⟨_, _, _, _, _, _, _, rfl, OO⟩ := p14.out.op
                  refine wpAnyH_ready (rs := [16]) (by kernel_rfl) (by simp) ?_
                  refine AllReadyH.cons (o := _) rfl (fun K hK => ?_) AllReadyH.nil
                  go_simp
                  refine hK.out _ _ (⟨((C9.out.ext XE).putL k0_15 0 [_, _, _]).c6, ((D9.out.ext XE).putL k1_15 0 [_, _, _]).c6, ((T9.out.ext XE).putL k2_15 0 [_, _, _]).c3⟩) (fun hHeld => ?_)
                  clear hK K
                  try simp only [Act.put, List.getElem_toArray, List.getElem_cons_succ, List.getElem_cons_zero, List.setIfInBounds_toArray, List.set_cons_zero, List.set_cons_succ]
                  refine wpAnyH_done (by kernel_rfl) ?_ _
                  refine NoPanic.normal ?_
                  go_wp2_with fail
                  go_meet
                  exact ⟨B15, rfl, put3_below hX.out s15.out _ _ _, Bp.set r15.out (by decide) OO.out⟩
                have L3_15 : ∀ (wv : World) (v10 v11 v13 : Value) (B15 : Nat), Hid (Ext w9 wv) → Hid (RdP wv v10 np) → Hid (OwnP 4 0 wv v11 f1) → Hid (RdP wv v13 fi) → Hid (Rt wv B15 3 33) → Hid (w9.heap.size ≤ B15) → wpAnyH Try.prog .any O Q9 SS 2 #[true, true, true, true, true, true, true, true, true, true, true, true, true, true, false, true, false] ((((AA.put (some 58) v10).put (some 59) v11).put (some 61) v13).put (some 9) (.pointer (some ⟨B15, 0, none⟩))) wv := by
                  intro wv v10 v11 v13 B15 hX p10 p11 p13 r15 s15
                  have hO1 := hO.out
                  have hQ1 := hQ.out
                  have hA1 := hA.out
                  subst hO1
                  subst hQ1
                  subst hA1
                  have XE := hX.out
                  try simp only [Act.put, List.getElem_toArray, List.getElem_cons_succ, List.getElem_cons_zero, List.setIfInBounds_toArray, List.set_cons_zero, List.set_cons_succ]
                  refine wpAnyH_ready (rs := [14]) (by kernel_rfl) (by simp) ?_
                  refine AllReadyH.cons (o := _) rfl (fun K hK => ?_) AllReadyH.nil
                  go_simp
                  go_at_call 25
                  refine (HML.out _ _ _ p11.out.rd p13.out).mono ?_
                  rintro e wn ⟨vn, rfl, bn, on⟩
                  go_wp2_with fail
                  refine hK.out _ _ (KP.out _ (Ext.trans XE bn)) (fun _ => ?_)
                  clear hK K
                  try simp only [Act.put, List.getElem_toArray, List.getElem_cons_succ, List.getElem_cons_zero, List.setIfInBounds_toArray, List.set_cons_zero, List.set_cons_succ]
                  exact wpAnyH_at (L4_15 wn v10 v11 v13 vn B15 (Ext.trans XE bn) (p10.out.ext bn) (p11.out.ext bn) (p13.out.ext bn) (on) (r15.out.ext bn) s15) (by kernel_rfl) (by kernel_rfl) (by kernel_rfl)
                have L4_ : ∀ (wv : World) (v10 v11 v13 v14 : Value), Hid (Ext w9 wv) → Hid (RdP wv v10 np) → Hid (OwnP 4 0 wv v11 f1) → Hid (RdP wv v13 fi) → Hid (OwnP 4 0 wv v14 dq) → wpAnyH Try.prog .any O Q9 SS 2 #[true, true, true, true, true, true, true, true, true, true, true, true, true, true, true, false, false] ((((AA.put (some 58) v10).put (some 59) v11).put (some 61) v13).put (some 62) v14) wv := by
                  intro wv v10 v11 v13 v14 hX p10 p11 p13 p14
                  have hO1 := hO.out
                  have hQ1 := hQ.out
                  have hA1 := hA.out
                  subst hO1
                  subst hQ1
                  subst hA1
                  have XE := hX.out
                  try simp only [Act.put, List.getElem_toArray, List.getElem_cons_succ, List.getElem_cons_zero, List.setIfInBounds_toArray, List.set_cons_zero, List.set_cons_succ]
                  refine wpAnyH_ready (rs := [15]) (by kernel_rfl) (by simp) ?_
                  refine AllReadyH.cons (o := _) rfl (fun K hK => ?_) AllReadyH.nil
                  go_simp
                  refine hK.out _ _ (KP.out _ (Ext.trans XE (Ext.alloc _ _))) (fun _ => ?_)
                  clear hK K
                  try simp only [Act.put, List.getElem_toArray, List.getElem_cons_succ, List.getElem_cons_zero, List.setIfInBounds_toArray, List.set_cons_zero, List.set_cons_succ]
                  exact wpAnyH_at (L4_15 _ v10 v11 v13 v14 wv.heap.size (Ext.trans XE (Ext.alloc wv (.cells [.bool false, .slice none 0 0, .slice none 0 0].toArray 33))) (p10.out.ext (Ext.alloc wv (.cells [.bool false, .slice none 0 0, .slice none 0 0].toArray 33))) (p11.out.ext (Ext.alloc wv (.cells [.bool false, .slice none 0 0, .slice none 0 0].toArray 33))) (p13.out.ext (Ext.alloc wv (.cells [.bool false, .slice none 0 0, .slice none 0 0].toArray 33))) (p14.out.ext (Ext.alloc wv (.cells [.bool false, .slice none 0 0, .slice none 0 0].toArray 33))) (Rt.new wv [.bool false, .slice none 0 0, .slice none 0 0] 33) (Below.size XE)) (by kernel_rfl) (by kernel_rfl) (by kernel_rfl)
                have L2_15 : ∀ (wv : World) (v10 v11 : Value) (B15 : Nat), Hid (Ext w9 wv) → Hid (RdP wv v10 np) → Hid (OwnP 4 0 wv v11 f1) → Hid (Rt wv B15 3 33) → Hid (w9.heap.size ≤ B15) → wpAnyH Try.prog .any O Q9 SS 3 #[true, true, true, true, true, true, true, true, true, true, true, true, true, false, false, true, false] (((AA.put (some 58) v10).put (some 59) v11).put (some 9) (.pointer (some ⟨B15, 0, none⟩))) wv := by
                  intro wv v10 v11 B15 hX p10 p11 r15 s15
                  have hO1 := hO.out
                  have hQ1 := hQ.out
                  have hA1 := hA.out
                  subst hO1
                  subst hQ1
                  subst hA1
                  have XE := hX.out
                  try simp only [Act.put, List.getElem_toArray, List.getElem_cons_succ, List.getElem_cons_zero, List.setIfInBounds_toArray, List.set_cons_zero, List.set_cons_succ]
                  refine wpAnyH_ready (rs := [13]) (by kernel_rfl) (by simp) ?_
                  refine AllReadyH.cons (o := _) rfl (fun K hK => ?_) AllReadyH.nil
                  go_simp
                  go_at_call 109
                  refine (HIV.out _ _ HS0.out (U9.out.ext XE)).mono ?_
                  rintro e wn ⟨vn, rfl, bn, on⟩
                  go_wp2_with fail
                  refine hK.out _ _ (KP.out _ (Ext.trans XE bn)) (fun _ => ?_)
                  clear hK K
                  try simp only [Act.put, List.getElem_toArray, List.getElem_cons_succ, List.getElem_cons_zero, List.setIfInBounds_toArray, List.set_cons_zero, List.set_cons_succ]
                  exact wpAnyH_at (L3_15 wn v10 v11 vn B15 (Ext.trans XE bn) (p10.out.ext bn) (p11.out.ext bn) (on) (r15.out.ext bn) s15) (by kernel_rfl) (by kernel_rfl) (by kernel_rfl)
                have L3_ : ∀ (wv : World) (v10 v11 v13 : Value), Hid (Ext w9 wv) → Hid (RdP wv v10 np) → Hid (OwnP 4 0 wv v11 f1) → Hid (RdP wv v13 fi) → wpAnyH Try.prog .any O Q9 SS 3 #[true, true, true, true, true, true, true, true, true, true, true, true, true, true, false, false, false] (((AA.put (some 58) v10).put (some 59) v11).put (some 61) v13) wv := by
                  intro wv v10 v11 v13 hX p10 p11 p13
                  have hO1 := hO.out
                  have hQ1 := hQ.out
                  have hA1 := hA.out
                  subst hO1
                  subst hQ1
                  subst hA1
                  have XE := hX.out
                  try simp only [Act.put, List.getElem_toArray, List.getElem_cons_succ, List.getElem_cons_zero, List.setIfInBounds_toArray, List.set_cons_zero, List.set_cons_succ]
                  refine wpAnyH_ready (rs := [14, 15]) (by kernel_rfl) (by simp) ?_
                  refine AllReadyH.cons (o := _) rfl (fun K hK => ?_) (AllReadyH.cons (o := _) rfl (fun K hK => ?_) AllReadyH.nil)
                  · skip
                    go_simp
                    go_at_call 25
                    refine (HML.out _ _ _ p11.out.rd p13.out).mono ?_
                    rintro e wn ⟨vn, rfl, bn, on⟩
                    go_wp2_with fail
                    refine hK.out _ _ (KP.out _ (Ext.trans XE bn)) (fun _ => ?_)
                    clear hK K
                    try simp only [Act.put, List.getElem_toArray, List.getElem_cons_succ, List.getElem_cons_zero, List.setIfInBounds_toArray, List.set_cons_zero, List.set_cons_succ]
                    exact wpAnyH_at (L4_ wn v10 v11 v13 vn (Ext.trans XE bn) (p10.out.ext bn) (p11.out.ext bn) (p13.out.ext bn) (on)) (by kernel_rfl) (by kernel_rfl) (by kernel_rfl)
                  · skip
                    go_simp
                    refine hK.out _ _ (KP.out _ (Ext.trans XE (Ext.alloc _ _))) (fun _ => ?_)
                    clear hK K
                    try simp only [Act.put, List.getElem_toArray, List.getElem_cons_succ, List.getElem_cons_zero, List.setIfInBounds_toArray, List.set_cons_zero, List.set_cons_succ]
                    exact wpAnyH_at (L3_15 _ v10 v11 v13 wv.heap.size (Ext.trans XE (Ext.alloc wv (.cells [.bool false, .slice none 0 0, .slice none 0 0].toArray 33))) (p10.out.ext (Ext.alloc wv (.cells [.bool false, .slice none 0 0, .slice none 0 0].toArray 33))) (p11.out.ext (Ext.alloc wv (.cells [.bool false, .slice none 0 0, .slice none 0 0].toArray 33))) (p13.out.ext (Ext.alloc wv (.cells [.bool false, .slice none 0 0, .slice none 0 0].toArray 33))) (Rt.new wv [.bool false, .slice none 0 0, .slice none 0 0] 33) (Below.size XE)) (by kernel_rfl) (by kernel_rfl) (by kernel_rfl)
                have L1_15 : ∀ (wv : World) (v10 : Value) (B15 : Nat), Hid (Ext w9 wv) → Hid (RdP wv v10 np) → Hid (Rt wv B15 3 33) → Hid (w9.heap.size ≤ B15) → wpAnyH Try.prog .any O Q9 SS 4 #[true, true, true, true, true, true, true, true, true, true, true, false, true, false, false, true, false] ((AA.put (some 58) v10).put (some 9) (.pointer (some ⟨B15, 0, none⟩))) wv := by
                  intro wv v10 B15 hX p10 r15 s15
                  have hO1 := hO.out
                  have hQ1 := hQ.out
                  have hA1 := hA.out
                  subst hO1
                  subst hQ1
                  subst hA1
                  have XE := hX.out
                  try simp only [Act.put, List.getElem_toArray, List.getElem_cons_succ, List.getElem_cons_zero, List.setIfInBounds_toArray, List.set_cons_zero, List.set_cons_succ]
                  refine wpAnyH_ready (rs := [11]) (by kernel_rfl) (by simp) ?_
                  refine AllReadyH.cons (o := _) rfl (fun K hK => ?_) AllReadyH.nil
                  go_simp
                  go_at_call 20
                  refine (HA2.out _ _ _ (Y9.out.ext XE) p10.out).mono ?_
                  rintro e wn ⟨vn, rfl, bn, on⟩
                  go_wp2_with fail
                  refine hK.out _ _ (KP.out _ (Ext.trans XE bn)) (fun _ => ?_)
                  clear hK K
                  try simp only [Act.put, List.getElem_toArray, List.getElem_cons_succ, List.getElem_cons_zero, List.setIfInBounds_toArray, List.set_cons_zero, List.set_cons_succ]
                  exact wpAnyH_at (L2_15 wn v10 vn B15 (Ext.trans XE bn) (p10.out.ext bn) (on) (r15.out.ext bn) s15) (by kernel_rfl) (by kernel_rfl) (by kernel_rfl)
                have L2_ : ∀ (wv : World) (v10 v11 : Value), Hid (Ext w9 wv) → Hid (RdP wv v10 np) → Hid (OwnP 4 0 wv v11 f1) → wpAnyH Try.prog .any O Q9 SS 4 #[true, true, true, true, true, true, true, true, true, true, true, true, true, false, false, false, false] ((AA.put (some 58) v10).put (some 59) v11) wv := by
                  intro wv v10 v11 hX p10 p11
                  have hO1 := hO.out
                  have hQ1 := hQ.out
                  have hA1 := hA.out
                  subst hO1
                  subst hQ1
                  subst hA1
                  have XE := hX.out
                  try simp only [Act.put, List.getElem_toArray, List.getElem_cons_succ, List.getElem_cons_zero, List.setIfInBounds_toArray, List.set_cons_zero, List.set_cons_succ]
                  refine wpAnyH_ready (rs := [13, 15]) (by kernel_rfl) (by simp) ?_
                  refine AllReadyH.cons (o := _) rfl (fun K hK => ?_) (AllReadyH.cons (o := _) rfl (fun K hK => ?_) AllReadyH.nil)
                  · skip
                    go_simp
                    go_at_call 109
                    refine (HIV.out _ _ HS0.out (U9.out.ext XE)).mono ?_
                    rintro e wn ⟨vn, rfl, bn, on⟩
                    go_wp2_with fail
                    refine hK.out _ _ (KP.out _ (Ext.trans XE bn)) (fun _ => ?_)
                    clear hK K
                    try simp only [Act.put, List.getElem_toArray, List.getElem_cons_succ, List.getElem_cons_zero, List.setIfInBounds_toArray, List.set_cons_zero, List.set_cons_succ]
                    exact wpAnyH_at (L3_ wn v10 v11 vn (Ext.trans XE bn) (p10.out.ext bn) (p11.out.ext bn) (on)) (by kernel_rfl) (by kernel_rfl) (by kernel_rfl)
                  · skip
                    go_simp
                    refine hK.out _ _ (KP.out _ (Ext.trans XE (Ext.alloc _ _))) (fun _ => ?_)
                    clear hK K
                    try simp only [Act.put, List.getElem_toArray, List.getElem_cons_succ, List.getElem_cons_zero, List.setIfInBounds_toArray, List.set_cons_zero, List.set_cons_succ]
                    exact wpAnyH_at (L2_15 _ v10 v11 wv.heap.size (Ext.trans XE (Ext.alloc wv (.cells [.bool false, .slice none 0 0, .slice none 0 0].toArray 33))) (p10.out.ext (Ext.alloc wv (.cells [.bool false, .slice none 0 0, .slice none 0 0].toArray 33))) (p11.out.ext (Ext.alloc wv (.cells [.bool false, .slice none 0 0, .slice none 0 0].toArray 33))) (Rt.new wv [.bool false, .slice none 0 0, .slice none 0 0] 33) (Below.size XE)) (by kernel_rfl) (by kernel_rfl) (by kernel_rfl)
                have L0_15 : ∀ (wv : World) (B15 : Nat), Hid (Ext w9 wv) → Hid (Rt wv B15 3 33) → Hid (w9.heap.size ≤ B15) → wpAnyH Try.prog .any O Q9 SS 5 #[true, true, true, true, true, true, true, true, true, true, false, false, true, false, false, true, false] (AA.put (some 9) (.pointer (some ⟨B15, 0, none⟩))) wv := by
                  intro wv B15 hX r15 s15
                  have hO1 := hO.out
                  have hQ1 := hQ.out
                  have hA1 := hA.out
                  subst hO1
                  subst hQ1
                  subst hA1
                  have XE := hX.out
                  try simp only [Act.put, List.getElem_toArray, List.getElem_cons_succ, List.getElem_cons_zero, List.setIfInBounds_toArray, List.set_cons_zero, List.set_cons_succ]
                  refine wpAnyH_ready (rs := [10]) (by kernel_rfl) (by simp) ?_
                  refine AllReadyH.cons (o := _) rfl (fun K hK => ?_) AllReadyH.nil
                  go_simp
                  go_at_call 22
                  refine (HN2.out _ _ (P9.out.ext XE)).mono ?_
                  rintro e wn ⟨vn, rfl, bn, on⟩
                  go_wp2_with fail
                  refine hK.out _ _ (KP.out _ (Ext.trans XE bn)) (fun _ => ?_)
                  clear hK K
                  try simp only [Act.put, List.getElem_toArray, List.getElem_cons_succ, List.getElem_cons_zero, List.setIfInBounds_toArray, List.set_cons_zero, List.set_cons_succ]
                  exact wpAnyH_at (L1_15 wn vn B15 (Ext.trans XE bn) (on) (r15.out.ext bn) s15) (by kernel_rfl) (by kernel_rfl) (by kernel_rfl)
                have L1_ : ∀ (wv : World) (v10 : Value), Hid (Ext w9 wv) → Hid (RdP wv v10 np) → wpAnyH Try.prog .any O Q9 SS 5 #[true, true, true, true, true, true, true, true, true, true, true, false, true, false, false, false, false] (AA.put (some 58) v10) wv := by
                  intro wv v10 hX p10
                  have hO1 := hO.out
                  have hQ1 := hQ.out
                  have hA1 := hA.out
                  subst hO1
                  subst hQ1
                  subst hA1
                  have XE := hX.out
                  try simp only [Act.put, List.getElem_toArray, List.getElem_cons_succ, List.getElem_cons_zero, List.setIfInBounds_toArray, List.set_cons_zero, List.set_cons_succ]
                  refine wpAnyH_ready (rs := [11, 15]) (by kernel_rfl) (by simp) ?_
                  refine AllReadyH.cons (o := _) rfl (fun K hK => ?_) (AllReadyH.cons (o := _) rfl (fun K hK => ?_) AllReadyH.nil)
                  · skip
                    go_simp
                    go_at_call 20
                    refine (HA2.out _ _ _ (Y9.out.ext XE) p10.out).mono ?_
                    rintro e wn ⟨vn, rfl, bn, on⟩
                    go_wp2_with fail
                    refine hK.out _ _ (KP.out _ (Ext.trans XE bn)) (fun _ => ?_)
                    clear hK K
                    try simp only [Act.put, List.getElem_toArray, List.getElem_cons_succ, List.getElem_cons_zero, List.setIfInBounds_toArray, List.set_cons_zero, List.set_cons_succ]
                    exact wpAnyH_at (L2_ wn v10 vn (Ext.trans XE bn) (p10.out.ext bn) (on)) (by kernel_rfl) (by kernel_rfl) (by kernel_rfl)
                  · skip
                    go_simp
                    refine hK.out _ _ (KP.out _ (Ext.trans XE (Ext.alloc _ _))) (fun _ => ?_)
                    clear hK K
                    try simp only [Act.put, List.getElem_toArray, List.getElem_cons_succ, List.getElem_cons_zero, List.setIfInBounds_toArray, List.set_cons_zero, List.set_cons_succ]
                    exact wpAnyH_at (L1_15 _ v10 wv.heap.size (Ext.trans XE (Ext.alloc wv (.cells [.bool false, .slice none 0 0, .slice none 0 0].toArray 33))) (p10.out.ext (Ext.alloc wv (.cells [.bool false, .slice none 0 0, .slice none 0 0].toArray 33))) (Rt.new wv [.bool false, .slice none 0 0, .slice none 0 0] 33) (Below.size XE)) (by kernel_rfl) (by kernel_rfl) (by kernel_rfl)
                have L0_ : ∀ (wv : World), Hid (Ext w9 wv) → wpAnyH Try.prog .any O Q9 SS 6 #[true, true, true, true, true, true, true, true, true, true, false, false, true, false, false, false, false] AA wv := by
                  intro wv hX
                  have hO1 := hO.out
                  have hQ1 := hQ.out
                  have hA1 := hA.out
                  subst hO1
                  subst hQ1
                  subst hA1
                  have XE := hX.out
                  try simp only [Act.put, List.getElem_toArray, List.getElem_cons_succ, List.getElem_cons_zero, List.setIfInBounds_toArray, List.set_cons_zero, List.set_cons_succ]
                  refine wpAnyH_ready (rs := [10, 15]) (by kernel_rfl) (by simp) ?_
                  refine AllReadyH.cons (o := _) rfl (fun K hK => ?_) (AllReadyH.cons (o := _) rfl (fun K hK => ?_) AllReadyH.nil)
                  · skip
                    go_simp
                    go_at_call 22
                    refine (HN2.out _ _ (P9.out.ext XE)).mono ?_
                    rintro e wn ⟨vn, rfl, bn, on⟩
                    go_wp2_with fail
                    refine hK.out _ _ (KP.out _ (Ext.trans XE bn)) (fun _ => ?_)
                    clear hK K
                    try simp only [Act.put, List.getElem_toArray, List.getElem_cons_succ, List.getElem_cons_zero, List.setIfInBounds_toArray, List.set_cons_zero, List.set_cons_succ]
                    exact wpAnyH_at (L1_ wn vn (Ext.trans XE bn) (on)) (by kernel_rfl) (by kernel_rfl) (by kernel_rfl)
                  · skip
                    go_simp
                    refine hK.out _ _ (KP.out _ (Ext.trans XE (Ext.alloc _ _))) (fun _ => ?_)
                    clear hK K
                    try simp only [Act.put, List.getElem_toArray, List.getElem_cons_succ, List.getElem_cons_zero, List.setIfInBounds_toArray, List.set_cons_zero, List.set_cons_succ]
                    exact wpAnyH_at (L0_15 _ wv.heap.size (Ext.trans XE (Ext.alloc wv (.cells [.bool false, .slice none 0 0, .slice none 0 0].toArray 33))) (Rt.new wv [.bool false, .slice none 0 0, .slice none 0 0] 33) (Below.size XE)) (by kernel_rfl) (by kernel_rfl) (by kernel_rfl)
                have hO1 := hO.out
                have hQ1 := hQ.out
                have hA1 := hA.out
                subst hO1
                subst hQ1
                subst hA1
                have hS1 := hSS.out
                subst hS1
                exact wpAnyH_at (L0_ w9.drew (drew_ext w9)) (by kernel_rfl) (by kernel_rfl) (by kernel_rfl)
              case rest =>
                obtain ⟨F, rfl, b10, HF⟩ := hcut
                generalize wc = w10 at *
                have b410 := Ext.trans X6.out (Ext.trans b8 (Ext.trans b9 b10))
                obtain ⟨g0, d3, n3, e3, d4, n4, e4, U1, U2, U3⟩ := (hB.out.ext b410).op
                obtain ⟨g3, d7, n7, e7, d8, n8, e8, V1, V2, V3⟩ := HF.out.op
                obtain ⟨u0, u1, u2⟩ := U1.out.c3
                obtain ⟨q0, q1, q2⟩ := V1.out.c3
                have HSC : Hid (∀ w va vb, RdP w va dq → RdP w vb m → Calls Try.prog 66 #[va, vb] w (Gives w fun v' _ => v' = .int .i64 (dq - m).num.sign)) := fun w va vb h1 h2 => r5cmp_any h1 h2 (SQ.out.bits.le (by decide)) (hS.out.bits.le (by decide))
                have HLS : Hid (lst m dq = if (dq - m).num.sign < 0 then dq else m) := by
                  show _ = _
                  unfold lst
                  rw [sub_sgn m dq]
                  by_cases h : (dq - m).num.sign < 0
                  · rw [if_pos h, if_neg (by omega)]
                  · rw [if_neg h, if_pos (by omega)]
                generalize (dq - m).num.sign = sm at *
                go_upto_if 66 with (go_at_call 66; refine (HSC.out _ _ _ V3.out.rd U3.out.rd).mono ?_; rintro e w11 ⟨_, rfl, b11, rfl⟩)
                clear u0 u1 u2 q0 q1 q2
                by_cases hm : sm < 0
                · have HM : Hid (lst m dq = dq) := by show _ = _; rw [HLS.out, if_pos hm]
                  rw [decide_eq_true hm]
                  have T11 := Lib.hid (U2.out.ext b11)
                  obtain ⟨_, _, _, j0, j1, j2, i0, i1, i2⟩ := T11.out.rm.c3
                  obtain ⟨q0, q1, q2⟩ := (V1.out.ext b11).c3
                  clear hm HLS
                  go_wp2_with fail
                  go_roundw
                  case rel => exact ⟨k + 1, dq, by go_num, by omega, put3_below (Ext.trans b4 (Ext.trans b410 b11)) (Nat.le_refl _) _ _ _, Bp.set T11.out (by decide) (V3.out.ext b11), SQ, by rw [← HC2.out, HM.out]; exact rfl⟩
                  case measure => simp [intOf] <;> omega
                · have HM : Hid (lst m dq = m) := by show _ = _; rw [HLS.out, if_neg hm]
                  rw [decide_eq_false hm]
                  clear hm HLS
                  go_wp2_with fail
                  go_roundw
                  case rel => exact ⟨k + 1, m, by go_num, by omega, Ext.trans b4 (Ext.trans b410 b11), hB.out.ext (Ext.trans b410 b11), hS, by rw [← HC2.out, HM.out]; exact rfl⟩
                  case measure => simp [intOf] <;> omega
      · obtain rfl : k = A.length := by omega
        have hcm : some m = chz (A.zip B) 1 := by
          have := hC.out
          rw [List.drop_eq_nil_of_le (by rw [HLZ.out]; exact Nat.le_refl _)] at this
          exact this
        rw [← hcm] at hR
        clear hcm
        obtain ⟨z0, d3, n3, e3, d4, n4, e4, T1, T2, T3⟩ := hB.out.op
        obtain ⟨u0, u1, u2⟩ := T1.out.c3
        have R4 := Lib.hid (R1.out.ext (Ext.trans b2 b4))
        obtain ⟨_, _, _, j0, j1, j2, i0, i1, i2⟩ := R4.out.rm.c3
        go_wp2_with fail
        refine bodyPost_ret (v := .tuple #[.agg #[.bool z0, .slice d3 n3 e3, .slice d4 n4 e4], .bool true]) (by simp [results, Try.results59, go_sem, j0, j1, j2]) rfl ?_
        exact hR.out _ _ (Gives.mk (put3_below b04 (Nat.le_refl _) _ _ _) ⟨_, rfl, OwnP.putT T3.out R4.out (by decide) 0 [_, _, _]⟩)
  · rw [if_neg hlen] at hR
    have h1 : ((A.length : Int) != (B.length : Int)) = true := by simp only [bne_iff_ne]; omega
    go_enter Try.func59, Try.ntmps59
    go_upto_region 2 with (fail)
    rw [← HW.out]
    clear HW h1
    go_wp2_with fail
    refine (r5int_any (u := 0) (by omega)).mono ?_
    rintro e w7 ⟨v7, rfl, b7, o7⟩
    obtain ⟨z0, d3, n3, e3, d4, n4, e4, rfl, O7⟩ := o7.op
    obtain ⟨_, _, _, j0, j1, j2, i0, i1, i2⟩ := (R1.out.ext b7).rm.c3
    clear o7
    go_wp2_with fail
    refine bodyPost_ret (v := .tuple #[.agg #[.bool z0, .slice d3 n3 e3, .slice d4 n4 e4], .bool false]) (by simp [results, Try.results59, go_sem, j0, j1, j2]) rfl ?_
    exact hR.out _ _ (Gives.mk (put3_below (Ext.trans b1 b7) (Nat.le_refl _) _ _ _) ⟨_, _, _, _, _, _, _, rfl⟩)
end Go.Proofs.Ytpeeacdnjbcmiaa
