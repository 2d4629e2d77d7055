/- limb.shiftOK, limb.Shl -/
import Derived.Test.YtblbpelaleaonaaPLimbCut
namespace Go.Proofs.Ytblbpelaleaonaa
open Go.RowKit Go.Att

theorem shiftOK_yes {w : World} {n : Int} (h0 : 0 ≤ n) (h1 : n ≤ 100000) :
    Calls Try.prog 43 #[.int .i64 n] w fun e w' => e = .returned (.bool true) ∧ w = w' := by
  refine via fun R hR => ?_
  go_enter Try.func43, Try.ntmps43
  have h2 : decide (n ≤ 100000) = true := by simpa using h1
  go_wp2
  all_goals exact hR.out _ _ ⟨rfl, rfl⟩
theorem shiftOK_no {w : World} {n : Int} (h : n < 0 ∨ 100000 < n) :
    Calls Try.prog 43 #[.int .i64 n] w fun e w' => e = .returned (.bool false) ∧ w = w' := by
  refine via fun R hR => ?_
  rcases h with h | h
  · have h1 : decide (0 ≤ n) = false := by simp; omega
    go_enter Try.func43, Try.ntmps43
    go_wp2
    all_goals exact hR.out _ _ ⟨rfl, rfl⟩
  · have h1 : 0 ≤ n := by omega
    have h2 : decide (n ≤ 100000) = false := by simp; omega
    go_enter Try.func43, Try.ntmps43
    go_wp2
    all_goals exact hR.out _ _ ⟨rfl, rfl⟩

theorem shl_no {w : World} {va : Value} {n : Int} (hn : n < 0 ∨ 100000 < n) :
    Calls Try.prog 38 #[va, .int .i64 n] w fun e w' => e = .returned (.tuple #[.slice none 0 0, .bool false]) ∧ w = w' := by
  refine via fun R hR => ?_
  have HN := Lib.hid hn
  clear hn
  go_enter Try.func38, Try.ntmps38
  go_wp2_with fail
  refine (shiftOK_no HN.out).mono ?_
  rintro e w' ⟨rfl, rfl⟩
  go_wp2
  all_goals exact hR.out _ _ ⟨rfl, rfl⟩

theorem shl_any {w : World} {va : Value} {xs : List Nat} (n : Nat) (hn : n ≤ 100000) (ha : RdL w va xs) (hl : xs.length ≤ 1099511627776) :
    Calls Try.prog 38 #[va, .int .i64 n] w (Gives w fun v' w' => ∃ d, v' = .tuple #[d, .bool true] ∧ OwnL 32 w.heap.size w' d (limbs (nv xs * 2 ^ n))) := by
  refine via fun R hR => ?_
  have HA := Lib.hid ha
  obtain ⟨a, ca, rfl, hla, hma, _, hca⟩ := ha.1.shape
  have HCA := Lib.hid hca
  clear ha hca
  unfold maxLen at hma
  have hs : n % 32 < 32 := Nat.mod_lt _ (by decide)
  have hq : n / 32 ≤ 3125 := by omega
  go_enter Try.func38, Try.ntmps38
  go_wp2_with fail
  refine (shiftOK_yes (by omega) (by omega)).mono ?_
  rintro e w' ⟨rfl, rfl⟩
  go_wp2_with (at_make; refine make_ints_lc et32 rfl _ _ rfl (n / 32) (n / 32 + xs.length + 1) rfl rfl (by omega) (by omega) (by omega) (by omega) (by unfold maxLen; omega) ?_)
  intro w1 ho hext
  have HO := Lib.hid ho
  have hsz := hext.size
  clear ho
  go_wp2_with fail
  go_loopw [6, 7, 24] (fun out c i wr => ∃ (k : Nat) (o : List Nat) (cc : Nat), i = .int .i64 k ∧ k ≤ xs.length ∧ o.length = n / 32 + k ∧ c = .int .u64 cc ∧ cc ≤ 2147483647 ∧ Hid (cc < 2 ^ (n % 32)) ∧ Hid (OwnL 32 w.heap.size wr out o) ∧ Hid (nv o + W32 ^ (n / 32 + k) * cc = W32 ^ (n / 32) * 2 ^ (n % 32) * nv (xs.take k)) ∧ Ext w wr)
    (fun _ _ i _ => xs.length - (intOf i).toNat)
  case atStart => exact ⟨0, zeros (n / 32), 0, rfl, Nat.zero_le _, len_zeros _, rfl, by omega, Nat.two_pow_pos _, ⟨HO.out, fit_zeros _ (by decide)⟩, by simp [Hid, nv, zeros, val_zeros], hext⟩
  case round =>
    obtain ⟨k, o, c, rfl, hk, hol, rfl, hc0, hc1, hO, hinv, hbel⟩ := hrel
    have hsz2 := hbel.size
    clear hext hsz
    by_cases hlt : k < xs.length
    · obtain ⟨ba, oa, rfl, hc2⟩ := HCA.out k hlt
      have hc2' := Ext.cell hbel hc2
      have FA := HA.out.2.nth32 k
      clear hc2
      have hp := pow_lt_32 hs
      have hm : nth xs k * 2 ^ (n % 32) ≤ 4294967295 * 2147483648 := Nat.mul_le_mul FA hp
      have hor := or_sum (hi := nth xs k) hc1.out
      have hcar := shl_carry hc1.out FA rfl
      generalize hY : nth xs k * 2 ^ (n % 32) = Y at *
      have HY := Lib.hid hY
      have HOR := Lib.hid hor
      have HCAR := Lib.hid hcar
      clear hY hor hp hcar
      go_wp2_with (first
        | (refine op_shl rfl rfl (nth xs k) (n % 32) Y rfl rfl rfl (by omega) rfl (by show _ ≤ 64; omega) HY.out (by show _ < 18446744073709551616; omega) ?_)
        | (refine op_or rfl rfl c Y (c + Y) rfl rfl rfl rfl rfl (by show _ < 18446744073709551616; omega) (by show _ < 18446744073709551616; omega) HOR.out ?_)
        | (at_builtin; refine append_rd et32 rfl _ _ rfl w.heap.size rfl (Ext.owns (Ext.alloc _ _) hO.out.1) rfl (RdV.lit _ _ _ _ 1 rfl (by unfold maxLen; omega)) (by intro u hu; simp at hu; subst hu; rfl) (by omega) (by unfold maxLen; omega) (by simp; omega) ?_))
      intro v2 w2 ho2 hb2 _
      have HO2 := Lib.hid ho2
      clear ho2
      go_wp2
      go_roundw
      case rel =>
        have hY := HY.out
        exact ⟨k + 1, o ++ [(c + Y) % W32], (c + Y) / W32, rfl, by omega, by simp; omega, by unfold W32; go_num, by unfold W32; omega, HCAR.out,
          OwnL.snoc HO2.out (by omega) (by unfold W32; omega) hO.out.2 (Nat.mod_lt _ (by decide)), shl_step hol hinv.out (by rw [hY]), (Below.alloc hbel hsz2 _).trans hb2⟩
      case measure => simp [intOf] <;> omega
    · obtain rfl : k = xs.length := by omega
      have htot := Lib.hid (shl_end hol hinv.out)
      go_wp2_with (at_builtin; refine append_rd et32 rfl _ _ rfl w.heap.size rfl (Ext.owns (Ext.alloc _ _) hO.out.1) rfl (RdV.lit _ _ _ _ 1 rfl (by unfold maxLen; omega)) (by intro u hu; simp at hu; subst hu; rfl) (by omega) (by unfold maxLen; omega) (by simp; omega) ?_)
      intro v2 w2 ho2 hb2 _
      have HO2 := Lib.hid (OwnL.snoc (d := c) ho2 (by omega) rfl hO.out.2 (by unfold W32; omega))
      have hb3 : Below w.heap.size w w2 := (Below.alloc hbel hsz2 _).trans hb2
      clear ho2 hb2
      go_wp2_with (go_at_call 28; refine (norm_any HO2.out.rd (by simp; omega)).mono ?_; rintro e w3 ⟨v3, rfl, hb4, ho3⟩)
      have HO3 := Lib.hid ho3
      clear ho3
      go_wp2
      have ho4 := HO3.out
      rw [htot.out] at ho4
      exact hR.out _ _ (Gives.mk (hb3.trans (hb4.mono hb3.size)) ⟨_, rfl, ho4.mono hb3.size⟩)
end Go.Proofs.Ytblbpelaleaonaa
