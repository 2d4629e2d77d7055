/- nat.DivMod -/
import Derived.Test.YtblbpelaleaonaaPNatLong
import Derived.Test.YtblbpelaleaonaaPNatDivWord
import Derived.Test.YtblbpelaleaonaaPLimbWord
import Derived.Test.YtblbpelaleaonaaPLimbCmp
namespace Go.Proofs.Ytblbpelaleaonaa
open Go.RowKit Go.Att

theorem divmod_no {w : World} {va vb : Value} {xa xb : List Nat} (ha : RdL w va xa) (hb : RdL w vb xb) (hna : xa.length ≤ 549755813888) (hnb : xb.length ≤ 549755813888) (h0 : nv xb = 0) :
    Calls Try.prog 17 #[va, vb] w (Gives w fun v' _ => v' = .tuple #[.slice none 0 0, .slice none 0 0, .bool false]) := by
  refine via fun R hR => ?_
  have HA := Lib.hid ha
  have HB := Lib.hid hb
  have H0 := Lib.hid h0
  clear ha hb h0
  go_enter Try.func17, Try.ntmps17
  go_wp2_with fail
  refine (norm_any HA.out (by omega)).mono ?_
  rintro e w1 ⟨v1, rfl, b1, o1⟩
  have O1 := Lib.hid o1
  clear o1
  go_wp2_with fail
  refine (norm_any (HB.out.ext b1) (by omega)).mono ?_
  rintro e w2 ⟨v2, rfl, b2, o2⟩
  have O2 := Lib.hid o2
  clear o2
  rw [H0.out] at O2
  obtain ⟨b, cb, rfl, hcb1, hmb, _, _⟩ := O2.out.rd.1.shape
  have hl : (limbs 0).length ≤ 0 := by unfold limbs; rw [digs_zero]; exact Nat.le_refl _
  have hbe : (((limbs 0).length : Int) == 0) = true := beqT (by omega)
  go_wp2
  go_ret3
  exact hR.out _ _ (Gives.mk (Ext.trans b1 b2) rfl)

theorem single {y : Nat} (h : (limbs y).length = 1) : nth (limbs y) 0 = y ∧ 1 ≤ y := by
  have h1 := nv_limbs y
  unfold nv at h1
  have h2 : limbs y = [nth (limbs y) 0] := by
    apply List.ext_getElem (by simp [h])
    intro i h3 h4
    have : i = 0 := by omega
    subst this
    rw [← nth_lt _ _ h3]; simp
  rw [h2, val_one] at h1
  refine ⟨h1, ?_⟩
  have := (blen_limbs y (fun h0 => by subst h0; unfold limbs at h; rw [digs_zero] at h; simp at h)).2.1
  rw [h] at this
  have e : nth (limbs y) (1 - 1) = y := h1
  omega

set_option maxHeartbeats 1000000 in
theorem divmod_any {w : World} {va vb : Value} {xa xb : List Nat} (ha : RdL w va xa) (hb : RdL w vb xb) (hna : xa.length ≤ 549755813888) (hnb : xb.length ≤ 549755813888) (h0 : nv xb ≠ 0) :
    Calls Try.prog 17 #[va, vb] w (Gives w fun v' w' => ∃ q r, v' = .tuple #[q, r, .bool true] ∧ OwnL 32 w.heap.size w' q (limbs (nv xa / nv xb)) ∧ OwnL 32 w.heap.size w' r (limbs (nv xa % nv xb))) := by
  refine via fun R hR => ?_
  have HA := Lib.hid ha
  have HB := Lib.hid hb
  have hla := limbs_len_le ha.2
  have hlb := limbs_len_le hb.2
  clear ha hb
  go_enter Try.func17, Try.ntmps17
  go_wp2_with fail
  refine (norm_any HA.out (by omega)).mono ?_
  rintro e w1 ⟨v1, rfl, b1, o1⟩
  have O1 := Lib.hid o1
  clear o1
  go_wp2_with fail
  refine (norm_any (HB.out.ext b1) (by omega)).mono ?_
  rintro e w2 ⟨v2, rfl, b2, o2⟩
  have O2 := Lib.hid o2
  clear o2
  generalize nv xa = x at *
  generalize nv xb = y at *
  have hpos := (blen_limbs y h0).2.2
  have OA := Lib.hid (O1.out.ext b2)
  have X2 := Ext.trans b1 b2
  have s1 := b1.size
  have s2 := X2.size
  obtain ⟨b, cb, rfl, hcb1, hmb, _, hcb⟩ := O2.out.rd.1.shape
  obtain ⟨bb, ob, rfl, hc⟩ := hcb 0 hpos
  rw [Nat.add_zero] at hc
  have hbe : (((limbs y).length : Int) == 0) = false := beqF (by omega)
  clear hcb b1 b2
  unfold maxLen at hmb
  by_cases hlt : x < y
  · have EQ : Hid (x / y = 0) := Nat.div_eq_of_lt hlt
    have ER : Hid (x % y = x) := Nat.mod_eq_of_lt hlt
    have EC : Hid (cmpN (nv (limbs x)) (nv (limbs y)) = -1) := by show _ = _; rw [nv_limbs, nv_limbs]; exact cmpN_lt hlt
    clear hlt h0
    go_wp2_with fail
    refine (cmp_any OA.out.rd O2.out.rd).mono ?_
    rintro e w3 ⟨_, rfl, b3, rfl⟩
    rw [EC.out]
    go_wp2
    go_ret3
    exact hR.out _ _ (Gives.mk (Ext.trans X2 b3) ⟨_, _, rfl, by rw [EQ.out]; unfold limbs; rw [digs_zero]; exact ⟨OwnI.nil _ _ _ _, Fit.nil _⟩, by rw [ER.out]; exact OA.out.ext b3⟩)
  · have EC : Hid (0 ≤ cmpN (nv (limbs x)) (nv (limbs y))) := by
      show _ ≤ _
      rw [nv_limbs, nv_limbs]
      rcases cmpN_cases x y with ⟨h, _⟩ | ⟨_, h⟩ | ⟨_, h⟩ <;> omega
    go_wp2_with fail
    refine (cmp_any OA.out.rd O2.out.rd).mono ?_
    rintro e w3 ⟨_, rfl, b3, rfl⟩
    have hcc := EC.out
    have s3 := b3.size
    generalize cmpN (nv (limbs x)) (nv (limbs y)) = cc at *
    by_cases h1 : (limbs y).length = 1
    · obtain ⟨e1, e2⟩ := single h1
      have hb1 : (((limbs y).length : Int) == 1) = true := beqT (by omega)
      have hy : y ≤ 4294967295 := by have := (fit_limbs y).nth32 0; omega
      have hc3 := Ext.cell b3 hc
      rw [e1] at hc3
      clear e1 h1 hc
      go_wp2_with fail
      refine (divword_any y e2 hy (OA.out.rd.ext b3) (by omega)).mono ?_
      rintro e w4 ⟨_, rfl, b4, v4, rfl, o4⟩
      rw [nv_limbs] at o4
      have O4 := Lib.hid o4
      have hm : x % y ≤ 18446744073709551615 := by have := Nat.mod_lt x (show 0 < y by omega); omega
      have hm2 : x % y ≤ 4294967295 := by have := Nat.mod_lt x (show 0 < y by omega); omega
      rw [nv_limbs]
      generalize hM : x % y = M at *
      have s4 := b4.size
      clear o4 hM
      go_wp2_with fail
      refine (word_any M hm).mono ?_
      rintro e w5 ⟨v5, rfl, b5, o5⟩
      have O5 := Lib.hid o5
      clear o5
      go_wp2_with fail
      go_ret3
      exact hR.out _ _ (Gives.mk (Ext.trans X2 (Ext.trans b3 (Ext.trans b4 b5))) ⟨_, _, rfl, (O4.out.ext b5).mono (by omega), O5.out.mono (by omega)⟩)
    · have hb1 : (((limbs y).length : Int) == 1) = false := beqF (by omega)
      have h2 : 2 ≤ (limbs y).length := by omega
      have hle : y ≤ x := by omega
      go_wp2_with fail
      refine (long_any (OA.out.rd.ext b3) (O2.out.rd.ext b3) h2 hle (by omega)).mono ?_
      rintro e w4 ⟨_, rfl, b4, q4, r4, rfl, o4, p4⟩
      have O4 := Lib.hid o4
      have P4 := Lib.hid p4
      clear o4 p4
      go_wp2_with fail
      go_ret3
      exact hR.out _ _ (Gives.mk (Ext.trans X2 (Ext.trans b3 b4)) ⟨_, _, rfl, O4.out.mono (by omega), P4.out.mono (by omega)⟩)
end Go.Proofs.Ytblbpelaleaonaa
