/- nat.Mul -/
import Derived.Test.YtblbpelaleaonaaNumN
import Derived.Test.YtblbpelaleaonaaPLimbCut
namespace Go.Proofs.Ytblbpelaleaonaa
open Go.RowKit Go.Att

theorem mul_any {w : World} {va vb : Value} {xa xb : List Nat} (ha : RdL w va xa) (hb : RdL w vb xb) (hna : xa.length ≤ 549755813888) (hnb : xb.length ≤ 549755813888) :
    Calls Try.prog 12 #[va, vb] w (Gives w fun v' w' => OwnL 32 w.heap.size w' v' (limbs (nv xa * nv xb))) := by
  refine via fun R hR => ?_
  have HA := Lib.hid ha
  have HB := Lib.hid hb
  have hla := limbs_len_le ha.2
  have hlb := limbs_len_le hb.2
  clear ha hb
  go_enter Try.func12, Try.ntmps12
  go_wp2_with fail
  refine (norm_any HA.out (by omega)).mono ?_
  rintro e w1 ⟨v1, rfl, b1, o1⟩
  have O1 := Lib.hid o1
  clear o1
  go_wp2_with fail
  refine (norm_any (HB.out.ext b1) (by omega)).mono ?_
  rintro e w2 ⟨v2, rfl, b2, o2⟩
  have O2 := Lib.hid o2
  clear o2
  have HRA := Lib.hid (O1.out.rd.ext b2)
  have HRB := Lib.hid O2.out.rd
  generalize hA : limbs (nv xa) = A at *
  generalize hB : limbs (nv xb) = B at *
  have HE : Hid (nv A * nv B = nv xa * nv xb) := by show _ = _; rw [← hA, ← hB, nv_limbs, nv_limbs]
  obtain ⟨a, ca, rfl, hca1, hma, _, hca⟩ := HRA.out.1.shape
  obtain ⟨b, cb, rfl, hcb1, hmb, _, hcb⟩ := HRB.out.1.shape
  have HCA := Lib.hid hca
  have HCB := Lib.hid hcb
  have X2 := Ext.trans b1 b2
  have s2 := X2.size
  clear hca hcb hA hB b1 b2
  unfold maxLen at hma hmb
  go_wp2_with (at_make; refine make_ints et32 rfl _ _ rfl _ _ (A.length + B.length) rfl rfl (by omega) (by unfold maxLen; omega) ?_)
  intro w3 o3 b3
  have O3 := Lib.hid o3
  have X3 := Ext.trans X2 b3
  clear o3
  go_wp2_with fail
  go_loopw [23] (fun i wr => ∃ (k : Nat) (o : List Nat), i = .int .i64 k ∧ k ≤ A.length ∧ o.length = A.length + B.length ∧ Hid (OwnL 32 w.heap.size wr (.slice (some ⟨w2.heap.size, 0, none⟩) (A.length + B.length) (A.length + B.length)) o) ∧ Hid (nv o = nv (A.take k) * nv B) ∧ Ext w wr ∧ Ext w2 wr) (fun i _ => A.length - (intOf i).toNat)
  case atStart => exact ⟨0, zeros (A.length + B.length), rfl, Nat.zero_le _, len_zeros _, ⟨O3.out.mono s2, fit_zeros _ (by decide)⟩, by simp [Hid, nv, zeros, val_zeros], X3, b3⟩
  case round =>
    obtain ⟨k, o, rfl, hk, hol, hO, hinv, hbel, hbel2⟩ := hrel
    have hs := hbel.size
    clear b3 X3
    by_cases hlt : k < A.length
    · obtain ⟨ba, oa, rfl, hc⟩ := HCA.out k hlt
      have hc2 := Ext.cell hbel2 hc
      have FA := HRA.out.2.nth32 k
      have hz : Hid (nth o (k + B.length) = 0) := digit_zero (by have h := hinv.out; unfold nv at h; rw [h]; exact mul_below HRA.out.2 HRB.out.2 k hk)
      clear hc
      go_wp2
      obtain ⟨wo, rfl⟩ : ∃ wo : World, wo = wr := ⟨_, rfl⟩
      go_loopw [8, 30] (fun c j wr => ∃ (jj : Nat) (o : List Nat) (cc : Nat), j = .int .i64 jj ∧ jj ≤ B.length ∧ o.length = A.length + B.length ∧ c = .int .u64 cc ∧ cc ≤ 4294967295 ∧ Hid (nth o (k + B.length) = 0) ∧ Hid (OwnL 32 w.heap.size wr (.slice (some ⟨w2.heap.size, 0, none⟩) (A.length + B.length) (A.length + B.length)) o) ∧ Hid (val W32 o + W32 ^ (k + jj) * cc = nv (A.take k) * nv B + W32 ^ k * (nth A k * val W32 (B.take jj))) ∧ Ext w wr ∧ Ext w2 wr) (fun _ j _ => B.length - (intOf j).toNat)
      case atStart => exact ⟨0, o, 0, rfl, Nat.zero_le _, hol, rfl, by omega, hz, hO, by simp [Hid, val]; exact hinv.out, hbel, hbel2⟩
      case round =>
        obtain ⟨j, o2, c, rfl, hj, hol2, rfl, hcc, hz2, hO2, hinv2, hbl, hbl2⟩ := hrel
        have hs2 := hbl.size
        clear hbel hbel2 hs hol hc2
        by_cases hlt2 : j < B.length
        · obtain ⟨bb, ob, rfl, hcb⟩ := HCB.out j hlt2
          have hcb' := Ext.cell hbl2 hcb
          have FB := HRB.out.2.nth32 j
          have hs1 := hO2.out.1.cellAt (k + j) (by omega)
          have hf1 := hO2.out.1.free (k + j)
          have FO := hO2.out.2.nth32 (k + j)
          obtain ⟨hm1, hm2⟩ := mul_carry hcc FA FB FO rfl
          have hp1 : (0 : Int) ≤ (nth A k : Int) * (nth B j : Int) := Int.mul_nonneg (by omega) (by omega)
          have hp2 : (nth A k : Int) * (nth B j : Int) ≤ 18446744065119617025 := by
            have h := Nat.mul_le_mul FA FB
            have h2 : ((nth A k * nth B j : Nat) : Int) ≤ 18446744065119617025 := by omega
            rwa [Int.natCast_mul] at h2
          have HM1 := Lib.hid hm1
          have HM2 := Lib.hid hm2
          have hp3 : (c : Int) + (nth A k : Int) * (nth B j : Int) + (nth o2 (k + j) : Int) ≤ 18446744073709551615 := by omega
          clear hcb hm1 hm2
          go_wp2
          go_roundw
          case rel =>
            refine ⟨j + 1, o2.set (k + j) ((c + nth A k * nth B j + nth o2 (k + j)) % W32), (c + nth A k * nth B j + nth o2 (k + j)) / W32, by go_num, by omega, by rw [len_set]; exact hol2, ?_, HM2.out, by show _ = _; rw [nth_set_ne _ _ _ _ (by omega)]; exact hz2.out, OwnL.set hO2.out (k + j) ?_ (Nat.mod_lt _ (by decide)), mul_step (by omega) hinv2.out rfl, Below.setCell hbl s2 _, Below.setCell hbl2 (Nat.le_refl _) _⟩
            · unfold W32; go_num
            · unfold W32; omega
          case measure => simp [intOf] <;> omega
        · obtain rfl : j = B.length := by omega
          have hs1 := hO2.out.1.cellAt (k + B.length) (by omega)
          have hf1 := hO2.out.1.free (k + B.length)
          go_wp2
          go_roundw
          case rel =>
            exact ⟨k + 1, o2.set (k + B.length) c, by go_num, by omega, by rw [len_set]; exact hol2, OwnL.set hO2.out (k + B.length) rfl (by unfold W32; omega), mul_row (by omega) hz2.out hinv2.out, Below.setCell hbl s2 _, Below.setCell hbl2 (Nat.le_refl _) _⟩
          case measure => simp [intOf] <;> omega
    · obtain rfl : k = A.length := by omega
      have E : Hid (nv o = nv xa * nv xb) := by
        have h := hinv.out
        unfold nv at h
        rw [val_take_ge _ _ _ (Nat.le_refl _)] at h
        exact h.trans HE.out
      go_wp2_with (go_at_call 28; refine (norm_any hO.out.rd (by omega)).mono ?_; rintro e w4 ⟨v4, rfl, b4, o4⟩)
      have O4 := Lib.hid o4
      clear o4
      go_wp2
      have o5 := O4.out
      rw [E.out] at o5
      exact hR.out _ _ (Gives.mk (Ext.trans hbel b4) (o5.mono hs))
end Go.Proofs.Ytblbpelaleaonaa
