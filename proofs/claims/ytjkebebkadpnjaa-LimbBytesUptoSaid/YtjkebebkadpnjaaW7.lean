/- limb.Word, limb.Low, limb.Pack, limb.Unpack -/
import Derived.Test.YtjkebebkadpnjaaNum3
import Derived.Test.YtjkebebkadpnjaaW6
namespace Go.Proofs.Ytjkebebkadpnjaa
open Go.RowKit Go.Att

theorem word_any {w : World} (u : Nat) (hu : u ≤ 18446744073709551615) :
    Calls Try.prog 9 #[.int .u64 u] w (Gives w fun v' w' => OwnL 52 w.heap.size w' v' (limbs u)) := by
  refine via fun R hR => ?_
  have E : Hid (nv [u % 4294967296, u / 4294967296] = u) := by show u % 4294967296 + 4294967296 * (u / 4294967296 + 4294967296 * 0) = u; omega
  have hf : Hid (Fit W32 [u % 4294967296, u / 4294967296]) := by intro x hx; simp at hx; unfold W32; omega
  have hd : u / 4294967296 ≤ 4294967295 := by omega
  go_enter Try.func9, Try.ntmps9
  go_wp2_with fail
  have hr : Hid (RdL (w.alloc (.cells #[.int .u32 ((u : Int) % 4294967296), .int .u32 ((u : Int) / 4294967296)] 52)) (.slice (some ⟨w.heap.size, 0, none⟩) 2 2) [u % 4294967296, u / 4294967296]) :=
    ⟨by have := RdV.lit w #[.int .u32 ((u : Int) % 4294967296), .int .u32 ((u : Int) / 4294967296)] 52 1 2 rfl (by unfold maxLen; omega)
        unfold RdI ints
        simpa using this, hf.out⟩
  refine (norm_any hr.out (by simp)).mono ?_
  rintro e w3 ⟨v3, rfl, hb4, ho3⟩
  have HO3 := Lib.hid ho3
  clear ho3
  go_wp2
  have ho4 := HO3.out
  rw [E.out] at ho4
  exact hR.out _ _ (Gives.mk (Ext.trans (Ext.alloc _ _) hb4) (ho4.mono (by simp)))

def W64 : Nat := 18446744073709551616
theorem low_any {w : World} {va : Value} {xs : List Nat} (ha : RdL w va xs) :
    Calls Try.prog 10 #[va] w (Gives w fun v' _ => v' = .tuple #[.int .u64 ((nv xs % W64 : Nat) : Int), .bool (decide (nv xs < W64))]) := by
  refine via fun R hR => ?_
  have HA := Lib.hid ha
  clear ha
  go_enter Try.func10, Try.ntmps10
  go_wp2_with fail
  refine (cut_any HA.out).mono ?_
  rintro e w' ⟨v', rfl, rfl, hr, -⟩
  generalize hx : nv xs = x at *
  obtain ⟨a, ca, rfl, hla, hma, _, hca⟩ := hr.1.shape
  have HC := Lib.hid hca
  clear hca hr hx
  unfold maxLen at hma
  go_wp2_with fail
  go_loop [4, 11] (fun u i => ∃ (k uu : Nat), i = .int .i64 k ∧ k ≤ (limbs x).length ∧ u = .int .u64 uu ∧ uu ≤ 18446744073709551615 ∧ Hid (uu = nv ((limbs x).take (min k 2)))) (fun _ i => (limbs x).length - (intOf i).toNat)
  case atStart => exact ⟨0, 0, rfl, Nat.zero_le _, rfl, by omega, by simp [Hid, nv, val]⟩
  case round =>
    obtain ⟨k, u, rfl, hk, rfl, hu, hinv⟩ := hrel
    by_cases hlt : k < (limbs x).length
    · obtain ⟨ba, oa, rfl, hc⟩ := HC.out k hlt
      have FA := (fit_limbs x).nth32 k
      by_cases h2 : k < 2
      · have hmin : min k 2 = k := by omega
        have h3 : u < 2 ^ (32 * k) := by
          have h := nv_lt ((fit_limbs x).take k)
          rw [List.length_take, Nat.min_eq_left (by omega), pow32] at h
          rw [hinv.out, hmin]; exact h
        have hor := or_sum (hi := nth (limbs x) k) h3
        have hp : 2 ^ (32 * k) ≤ 2 ^ 32 := Nat.pow_le_pow_right (by omega) (by omega)
        have hm : nth (limbs x) k * 2 ^ (32 * k) ≤ 4294967295 * 4294967296 := Nat.mul_le_mul FA hp
        have hnew : u + nth (limbs x) k * 2 ^ (32 * k) = nv ((limbs x).take (min (k + 1) 2)) := by
          rw [hinv.out, hmin, Nat.min_eq_left (by omega)]
          unfold nv
          rw [val_take_succ, pow32, Nat.mul_comm]
        generalize hY : nth (limbs x) k * 2 ^ (32 * k) = Y at *
        have HY := Lib.hid hY
        have HOR := Lib.hid hor
        have HNEW := Lib.hid hnew
        have h4 : u ≤ 4294967295 := by omega
        clear hY hor hnew h3 hp hmin
        go_wp2_with (first
          | (refine op_shl rfl rfl (nth (limbs x) k) (32 * k) Y rfl rfl rfl (by omega) rfl (by show _ ≤ 64; omega) HY.out (by show _ < 18446744073709551616; omega) ?_)
          | (refine op_or rfl rfl u Y (u + Y) rfl rfl rfl rfl rfl (by show _ < 18446744073709551616; omega) (by show _ < 18446744073709551616; omega) HOR.out ?_))
        go_round
        case rel => exact ⟨k + 1, u + Y, rfl, by omega, rfl, by omega, HNEW.out⟩
        case measure => simp [intOf] <;> omega
      · have hnew : Hid (u = nv ((limbs x).take (min (k + 1) 2))) := by
          show u = _
          rw [hinv.out]
          congr 2
          omega
        go_wp2
        go_round
        case rel => exact ⟨k + 1, u, rfl, by omega, rfl, by omega, hnew⟩
        case measure => simp [intOf] <;> omega
    · obtain rfl : k = (limbs x).length := by omega
      have h1 : Hid (u = x % W64) := by
        show u = _
        have h := val_mod (show 0 < W32 by decide) (fit_limbs x) 2
        rw [show val W32 (limbs x) = x from nv_limbs x] at h
        rw [hinv.out, show W64 = W32 ^ 2 from rfl, h]
        unfold nv
        by_cases h2 : (limbs x).length ≤ 2
        · rw [Nat.min_eq_left h2, List.take_of_length_le h2, List.take_of_length_le (by omega)]
        · rw [Nat.min_eq_right (by omega)]
      have h2 : Hid (decide (((limbs x).length : Int) ≤ 2) = decide (x < W64)) := by
        show _ = _
        have h := limbs_len x 2
        rw [show W32 ^ 2 = W64 from rfl] at h
        rw [decide_eq_decide, ← h]
        omega
      go_wp2
      all_goals exact hR.out _ _ (Gives.mk (Ext.refl _) (by rw [← h1.out, ← h2.out]))

theorem et8 : ElemT Try.prog 41 5 (.int .u8 0) 1 1 := ElemT.mk' Try.underlying41 (by kernel_rfl) rfl (by decide)
theorem pack_any {w : World} {va : Value} {xs : List Nat} (ha : RdL w va xs) (hl : xs.length ≤ 1099511627776) :
    Calls Try.prog 23 #[va] w (Gives w fun v' w' => OwnI .u8 5 w.heap.size w' v' (digs 256 (nv xs))) := by
  refine via fun R hR => ?_
  have HA := Lib.hid ha
  have hll := limbs_len_le ha.2
  clear ha
  go_enter Try.func23, Try.ntmps23
  go_wp2_with fail
  refine (cut_any HA.out).mono ?_
  rintro e w' ⟨v', rfl, rfl, hr, -⟩
  generalize hx : nv xs = x at *
  obtain ⟨a, ca, rfl, hla, hma, _, hca⟩ := hr.1.shape
  have HC := Lib.hid hca
  clear hca hr hx
  unfold maxLen at hma
  go_wp2_with fail
  go_loopw [3, 9] (fun b i wr => ∃ (k : Nat) (o : List Nat), i = .int .i64 k ∧ k ≤ (limbs x).length ∧ o.length = 4 * k ∧ Hid (Fit 256 o) ∧ Hid (OwnI .u8 5 w.heap.size wr b o) ∧ Hid (val 256 o = nv ((limbs x).take k)) ∧ Ext w wr) (fun _ i _ => (limbs x).length - (intOf i).toNat)
  case atStart => exact ⟨0, [], rfl, Nat.zero_le _, rfl, Fit.nil _, OwnI.nil _ _ _ _, by simp [Hid, nv, val], Ext.refl _⟩
  case round =>
    obtain ⟨k, o, rfl, hk, hol, hfo, hO, hinv, hbel⟩ := hrel
    have hsz2 := hbel.size
    by_cases hlt : k < (limbs x).length
    · obtain ⟨ba, oa, rfl, hc⟩ := HC.out k hlt
      have hc2 := Ext.cell hbel hc
      have FA := (fit_limbs x).nth32 k
      clear hc
      go_wp2_with (at_builtin; refine append_rd et8 rfl _ _ rfl w.heap.size rfl (Ext.owns (Ext.alloc _ _) hO.out) rfl (RdV.lit _ _ _ _ 4 rfl (by unfold maxLen; omega)) (by intro u hu; simp at hu; rcases hu with hu | hu | hu | hu <;> (subst hu; rfl)) (by omega) (by unfold maxLen; omega) (by simp; omega) ?_)
      intro v2 w2 ho2 hb2 _
      have HO2 := Lib.hid ho2
      clear ho2
      go_wp2
      go_roundw
      case rel =>
        exact ⟨k + 1, o ++ bytes4 (nth (limbs x) k), rfl, by omega, by simp [bytes4]; omega, hfo.out.app (fit_bytes4 _), OwnI.app HO2.out (by simp [bytes4]; omega) (by simp [ints, bytes4] <;> omega),
          pack_step (fit_limbs x) hol hinv.out, Below.trans (Below.alloc hbel hsz2 _) hb2⟩
      case measure => simp [intOf] <;> omega
    · obtain rfl : k = (limbs x).length := by omega
      have hv : val 256 o = x := by
        have h := hinv.out
        unfold nv at h
        rw [val_take_ge _ _ _ (Nat.le_refl _)] at h
        rw [h]; exact nv_limbs x
      have HV := Lib.hid hv
      obtain ⟨ab, cb, rfl, hlb, hmb, _, hcb⟩ := hO.out.rd.shape
      have HCB := Lib.hid hcb
      clear hcb hv
      unfold maxLen at hmb
      go_wp2_with fail
      go_loop [3] (fun s => ∃ n : Nat, n ≤ o.length ∧ Hid (∀ i, n ≤ i → i < o.length → nth o i = 0) ∧ s = .slice ab n cb) (fun s => match s with | .slice _ n _ => n | _ => 0)
      case atStart => exact ⟨o.length, Nat.le_refl _, fun i h h' => by omega, rfl⟩
      case round =>
        obtain ⟨n, hn, hz, rfl⟩ := hrel
        have fin : (n = 0 ∨ nth o (n - 1) ≠ 0) → R (.returned (.slice ab n cb)) wr := by
          intro h
          refine hR.out _ _ (Gives.mk hbel ?_)
          have h1 := OwnI.take hO.out rfl hn
          have h2 := take_digs (by decide) hfo.out hn hz.out h
          rw [HV.out] at h2
          rw [← h2]
          exact h1
        have FIN := Lib.hid fin
        clear fin
        by_cases h0 : n = 0
        · have h0' : n ≤ 0 := by omega
          have H0 := Lib.hid h0
          clear h0
          go_wp2
          all_goals exact FIN.out (.inl H0.out)
        · obtain ⟨bb, ob, rfl, hc⟩ := HCB.out (n - 1) (by omega)
          by_cases hz1 : nth o (n - 1) = 0
          · rw [hz1] at hc
            have HZ2 := Lib.hid hz1
            clear hz1
            go_wp2
            go_round
            case rel =>
              refine ⟨n - 1, by omega, fun i h h' => ?_, rfl⟩
              by_cases hi : i = n - 1
              · rw [hi]; exact HZ2.out
              · exact hz.out i (by omega) h'
            case measure => simp; omega
          · have hb : ((nth o (n - 1) : Int) == 0) = false := by simpa using hz1
            have HZ2 := Lib.hid hz1
            clear hz1
            go_wp2
            all_goals exact FIN.out (.inr HZ2.out)
theorem unpack_any {w : World} {va : Value} {bs : List Nat} (ha : RdI .u8 w va bs) (hf : Fit 256 bs) (hl : bs.length ≤ 1099511627776) :
    Calls Try.prog 24 #[va] w (Gives w fun v' w' => OwnL 52 w.heap.size w' v' (limbs (val 256 bs))) := by
  refine via fun R hR => ?_
  have HA := Lib.hid ha
  have HF := Lib.hid hf
  obtain ⟨a, ca, rfl, hla, hma, _, hca⟩ := ha.shape
  have HC := Lib.hid hca
  clear ha hf hca
  unfold maxLen at hma
  go_enter Try.func24, Try.ntmps24
  go_wp2_with (at_make; refine make_ints et32 rfl _ _ rfl _ _ ((bs.length + 3) / 4) rfl rfl (by omega) (by unfold maxLen; omega) ?_)
  intro w1 ho hext
  have HO := Lib.hid ho
  clear ho
  go_wp2_with fail
  generalize hQ : (bs.length + 3) / 4 = Q at *
  have hQ1 : bs.length ≤ 4 * Q := by omega
  have hQ2 : 4 * Q ≤ bs.length + 3 := by omega
  clear hQ
  go_loopw [13] (fun i wr => ∃ (k : Nat) (o : List Nat), i = .int .i64 k ∧ k ≤ bs.length ∧ o.length = Q ∧ Hid (OwnL 52 w.heap.size wr (.slice (some ⟨w.heap.size, 0, none⟩) Q Q) o) ∧ Hid (val W32 o = val 256 (bs.take k)) ∧ Ext w wr) (fun i _ => bs.length - (intOf i).toNat)
  case atStart => exact ⟨0, zeros Q, rfl, Nat.zero_le _, len_zeros _, ⟨HO.out, fit_zeros _ (by decide)⟩, by simp [Hid, zeros, val_zeros], hext⟩
  case round =>
    obtain ⟨k, o, rfl, hk, hol, hO, hinv, hbel⟩ := hrel
    have hsz2 := hbel.size
    clear hext
    by_cases hlt : k < bs.length
    · obtain ⟨ba, oa, rfl, hc⟩ := HC.out k hlt
      have hc2 := Ext.cell hbel hc
      have FA := HF.out.nth (by decide) k
      have hs1 := hO.out.1.cellAt (k / 4) (by omega)
      have hs2 := hO.out.1.free (k / 4)
      have FB := hO.out.2.nth32 (k / 4)
      clear hc
      go_wp2
      go_region
      go_wp2
      go_roundw
      case rel =>
        have h1 := unpack_small HF.out hlt hinv.out
        have h2 := or_sum (hi := nth bs k) h1
        have h3 := pow8_le (Nat.mod_lt k (show 0 < 4 by decide))
        have h4 : nth bs k * 2 ^ (8 * (k % 4)) ≤ 255 * 16777216 := Nat.mul_le_mul (by omega) h3
        have h5 := shl_cast32 (nth bs k) (8 * (k % 4)) (by omega)
        exact ⟨k + 1, o.set (k / 4) (nth o (k / 4) + nth bs k * 2 ^ (8 * (k % 4))), rfl, by omega, by rw [len_set]; exact hol,
          OwnL.set hO.out (k / 4) (by rw [h5]; exact bits_or rfl (by show _ < 4294967296; omega) (by show _ < 4294967296; omega) h2) (by unfold W32; omega), unpack_step HF.out hlt (by omega) hinv.out rfl, (Below.setCell hbel (Nat.le_refl _) _).drew⟩
      case measure => simp [intOf] <;> omega
    · have E : Hid (nv o = val 256 bs) := by
        show nv o = _
        have h := hinv.out
        rw [val_take_ge _ _ _ (by omega)] at h
        exact h
      go_wp2_with (go_at_call 32; refine (norm_any hO.out.rd (by omega)).mono ?_; rintro e w3 ⟨v3, rfl, hb4, ho3⟩)
      have HO3 := Lib.hid ho3
      clear ho3
      go_wp2
      have ho4 := HO3.out
      rw [E.out] at ho4
      exact hR.out _ _ (Gives.mk (Ext.trans hbel hb4) (ho4.mono hbel.size))
end Go.Proofs.Ytjkebebkadpnjaa
