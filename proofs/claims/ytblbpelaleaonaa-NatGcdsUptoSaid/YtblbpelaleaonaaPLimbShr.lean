/- limb.Shr -/
import Derived.Test.YtblbpelaleaonaaPLimbShl
namespace Go.Proofs.Ytblbpelaleaonaa
open Go.RowKit Go.Att

theorem shr_no {w : World} {va : Value} {n : Int} (hn : n < 0 ∨ 100000 < n) :
    Calls Try.prog 41 #[va, .int .i64 n] w fun e w' => e = .returned (.tuple #[.slice none 0 0, .bool false]) ∧ w = w' := by
  refine via fun R hR => ?_
  have HN := Lib.hid hn
  clear hn
  go_enter Try.func41, Try.ntmps41
  go_wp2_with fail
  refine (shiftOK_no HN.out).mono ?_
  rintro e w' ⟨rfl, rfl⟩
  go_wp2
  all_goals exact hR.out _ _ ⟨rfl, rfl⟩

theorem shr_any {w : World} {va : Value} {xs : List Nat} (n : Nat) (hn : n ≤ 100000) (ha : RdL w va xs) (hl : xs.length ≤ 1099511627776) :
    Calls Try.prog 41 #[va, .int .i64 n] w (Gives w fun v' w' => ∃ d, v' = .tuple #[d, .bool true] ∧ OwnL 32 w.heap.size w' d (limbs (nv xs / 2 ^ n))) := by
  refine via fun R hR => ?_
  have HA := Lib.hid ha
  obtain ⟨a, ca, rfl, hla, hma, _, hca⟩ := ha.1.shape
  have HCA := Lib.hid hca
  clear ha hca
  unfold maxLen at hma
  have hs : n % 32 < 32 := Nat.mod_lt _ (by decide)
  have hq : n / 32 ≤ 3125 := by omega
  by_cases hbig : xs.length ≤ n / 32
  · have E := Lib.hid (shr_zero HA.out.2 hbig)
    go_enter Try.func41, Try.ntmps41
    go_wp2_with fail
    refine (shiftOK_yes (by omega) (by omega)).mono ?_
    rintro e w' ⟨rfl, rfl⟩
    go_wp2
    exact hR.out _ _ (Gives.mk (Ext.refl _) ⟨_, rfl, by rw [E.out]; unfold limbs; rw [digs_zero]; exact ⟨OwnI.nil _ _ _ _, Fit.nil _⟩⟩)
  · obtain ⟨ba, oa, rfl, _⟩ := HCA.out (n / 32) (by omega)
    have HCB := Lib.hid (fun i (hi : n / 32 + i < xs.length) => HA.out.1.cell (n / 32 + i) hi)
    go_enter Try.func41, Try.ntmps41
    go_wp2_with fail
    refine (shiftOK_yes (by omega) (by omega)).mono ?_
    rintro e w' ⟨rfl, rfl⟩
    go_wp2_with (at_make; refine make_ints et32 rfl _ _ rfl _ _ (xs.length - n / 32) rfl rfl (by omega) (by unfold maxLen; omega) ?_)
    intro w1 ho hext
    have HO := Lib.hid ho
    have hsz := hext.size
    have HBIG := Lib.hid hbig
    have hbig2 : n / 32 < xs.length := by omega
    clear ho
    go_wp2_with fail
    go_loopw [26] (fun i wr => ∃ (k : Nat) (o : List Nat), i = .int .i64 k ∧ k ≤ xs.length - n / 32 ∧ o.length = xs.length - n / 32 ∧ Hid (OwnL 32 w.heap.size wr (.slice (some ⟨w.heap.size, 0, none⟩) (xs.length - n / 32) (xs.length - n / 32)) o) ∧ Hid (nv (o.take k) = nv (xs.drop (n / 32)) / 2 ^ (n % 32) % W32 ^ k) ∧ Ext w wr)
      (fun i _ => xs.length - n / 32 - (intOf i).toNat)
    case atStart => exact ⟨0, zeros (xs.length - n / 32), rfl, Nat.zero_le _, len_zeros _, ⟨HO.out, fit_zeros _ (by decide)⟩, by simp [Hid, nv, val, Nat.mod_one], hext⟩
    case round =>
      obtain ⟨k, o, rfl, hk, hol, hO, hinv, hbel⟩ := hrel
      have hsz2 := hbel.size
      clear hext hsz
      by_cases hlt : k < xs.length - n / 32
      · have hc1 := Ext.cell hbel (HCB.out k (by omega))
        rw [← Nat.add_assoc] at hc1
        have FA := HA.out.2.nth32 (n / 32 + k)
        have hs1 := hO.out.1.cellAt k (by omega)
        have hs2 := hO.out.1.free k
        by_cases hlt2 : k + 1 < xs.length - n / 32
        · have hc2 := Ext.cell hbel (HCB.out (k + 1) (by omega))
          rw [← Nat.add_assoc] at hc2
          have FB := HA.out.2.nth32 (n / 32 + (k + 1))
          have hor := Lib.hid (or_sum (s := 32) (lo := nth xs (n / 32 + k)) (hi := nth xs (n / 32 + (k + 1))) (by omega))
          have hD := Lib.hid (rfl : (nth xs (n / 32 + k) + nth xs (n / 32 + (k + 1)) * 4294967296) / 2 ^ (n % 32) = _)
          go_wp2_with (first
            | (refine op_shl rfl rfl (nth xs (n / 32 + (k + 1))) 32 (nth xs (n / 32 + (k + 1)) * 4294967296) rfl rfl rfl rfl rfl (by decide) rfl (by show _ < 18446744073709551616; omega) ?_)
            | (refine op_or rfl rfl (nth xs (n / 32 + k)) (nth xs (n / 32 + (k + 1)) * 4294967296) (nth xs (n / 32 + k) + nth xs (n / 32 + (k + 1)) * 4294967296) rfl rfl rfl (by go_num) rfl (by show _ < 18446744073709551616; omega) (by show _ < 18446744073709551616; omega) hor.out ?_)
            | (refine op_shr rfl rfl (nth xs (n / 32 + k) + nth xs (n / 32 + (k + 1)) * 4294967296) (n % 32) _ rfl rfl (by go_num) rfl (by show _ ≤ 64; omega) hD.out ?_))
          go_roundw
          case rel =>
            exact ⟨k + 1, o.set k ((nth xs (n / 32 + k) + nth xs (n / 32 + (k + 1)) * 4294967296) / 2 ^ (n % 32) % W32), rfl, by omega, by rw [len_set]; exact hol,
              OwnL.set hO.out k (by unfold W32; go_num) (Nat.mod_lt _ (by decide)), shr_step hs (HA.out.2.drop _) (by rw [List.length_drop]; exact hlt) (by rw [List.length_drop]; exact hol) hinv.out (by rw [nth_drop, nth_drop]), Below.setCell hbel (Nat.le_refl _) _⟩
          case measure => simp [intOf] <;> omega
        · have hor := Lib.hid (nth_ge xs (n / 32 + (k + 1)) (by omega))
          have hD := Lib.hid (rfl : nth xs (n / 32 + k) / 2 ^ (n % 32) = _)
          go_wp2_with (refine op_shr rfl rfl (nth xs (n / 32 + k)) (n % 32) _ rfl rfl rfl rfl (by show _ ≤ 64; omega) hD.out ?_)
          go_roundw
          case rel =>
            exact ⟨k + 1, o.set k (nth xs (n / 32 + k) / 2 ^ (n % 32) % W32), rfl, by omega, by rw [len_set]; exact hol,
              OwnL.set hO.out k (by unfold W32; go_num) (Nat.mod_lt _ (by decide)), shr_step hs (HA.out.2.drop _) (by rw [List.length_drop]; exact hlt) (by rw [List.length_drop]; exact hol) hinv.out (by rw [nth_drop, nth_drop, hor.out]; simp), Below.setCell hbel (Nat.le_refl _) _⟩
          case measure => simp [intOf] <;> omega
      · obtain rfl : k = xs.length - n / 32 := by omega
        have E := Lib.hid (shr_end HA.out.2 hol hinv.out)
        go_wp2_with (go_at_call 28; refine (norm_any hO.out.rd (by omega)).mono ?_; rintro e w3 ⟨v3, rfl, hb4, ho3⟩)
        have HO3 := Lib.hid ho3
        clear ho3
        go_wp2
        have ho4 := HO3.out
        rw [E.out] at ho4
        exact hR.out _ _ (Gives.mk (Ext.trans hbel hb4) ⟨_, rfl, ho4.mono hbel.size⟩)
end Go.Proofs.Ytblbpelaleaonaa
