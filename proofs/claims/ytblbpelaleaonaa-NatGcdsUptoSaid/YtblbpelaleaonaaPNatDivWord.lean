/- nat.DivWord -/
import Derived.Test.YtblbpelaleaonaaNumN
import Derived.Test.YtblbpelaleaonaaPLimbCut
namespace Go.Proofs.Ytblbpelaleaonaa
open Go.RowKit Go.Att

theorem divword_no {w : World} {va : Value} :
    Calls Try.prog 19 #[va, .int .u32 0] w fun e w' => e = .returned (.tuple #[.slice none 0 0, .int .u32 0, .bool false]) ∧ w = w' := by
  refine via fun R hR => ?_
  go_enter Try.func19, Try.ntmps19
  go_wp2
  go_ret3
  exact hR.out _ _ ⟨rfl, rfl⟩

theorem divword_any {w : World} {va : Value} {xs : List Nat} (d : Nat) (hd0 : 1 ≤ d) (hd : d ≤ 4294967295) (ha : RdL w va xs) (hl : xs.length ≤ 1099511627776) :
    Calls Try.prog 19 #[va, .int .u32 d] w (Gives w fun v' w' => ∃ q, v' = .tuple #[q, .int .u32 ((nv xs % d : Nat) : Int), .bool true] ∧ OwnL 32 w.heap.size w' q (limbs (nv xs / d))) := by
  refine via fun R hR => ?_
  have HA := Lib.hid ha
  obtain ⟨a, ca, rfl, hla, hma, _, hca⟩ := ha.1.shape
  have HCA := Lib.hid hca
  clear ha hca
  unfold maxLen at hma
  have hb : ((d : Int) == 0) = false := beqF (by omega)
  go_enter Try.func19, Try.ntmps19
  go_wp2_with (at_make; refine make_ints et32 rfl _ _ rfl _ _ xs.length rfl rfl (by omega) (by unfold maxLen; omega) ?_)
  intro w1 o1 b1
  have O1 := Lib.hid o1
  clear o1
  go_wp2_with fail
  go_loopw [8, 9] (fun r i wr => ∃ (m : Nat) (o : List Nat) (rr : Nat), i = .int .i64 ((m : Int) - 1) ∧ m ≤ xs.length ∧ o.length = xs.length ∧ r = .int .u64 rr ∧ rr < d ∧ Hid (OwnL 32 w.heap.size wr (.slice (some ⟨w.heap.size, 0, none⟩) xs.length xs.length) o) ∧ Hid (nv (xs.drop m) = d * nv (o.drop m) + rr) ∧ Ext w wr) (fun _ i _ => (intOf i + 1).toNat)
  case atStart => exact ⟨xs.length, zeros xs.length, 0, rfl, Nat.le_refl _, len_zeros _, rfl, by omega, ⟨O1.out, fit_zeros _ (by decide)⟩, by simp [Hid, nv, val, zeros], b1⟩
  case round =>
    obtain ⟨m, o, r, rfl, hm, hol, rfl, hr, hO, hinv, hbel⟩ := hrel
    have hs := hbel.size
    clear b1
    by_cases hlt : 0 < m
    · obtain ⟨j, rfl⟩ : ∃ j, m = j + 1 := ⟨m - 1, by omega⟩
      obtain ⟨ba, oa, rfl, hc⟩ := HCA.out j (by omega)
      have hc2 := Ext.cell hbel hc
      have FA := HA.out.2.nth32 j
      have hs1 := hO.out.1.cellAt j (by omega)
      have hf1 := hO.out.1.free j
      have hor : Hid (r * 4294967296 ||| nth xs j = r * 4294967296 + nth xs j) := by
        show _ = _
        have h := or_sum (s := 32) (lo := nth xs j) (hi := r) (by omega)
        rw [Nat.or_comm, show (2 : Nat) ^ 32 = 4294967296 from rfl] at h
        omega
      have hq := divw_small hr FA
      have hstep := Lib.hid (divw_step (by omega) hol hinv.out)
      have hmod := Nat.mod_lt (r * 4294967296 + nth xs j) (show 0 < d by omega)
      generalize hQ : (r * 4294967296 + nth xs j) / d = Q at *
      generalize hM : (r * 4294967296 + nth xs j) % d = M at *
      have eQ : (((r * 4294967296 + nth xs j : Nat) : Int) / (d : Int)) = (Q : Int) := by rw [← hQ]; simp
      have eM : (((r * 4294967296 + nth xs j : Nat) : Int) % (d : Int)) = (M : Int) := by rw [← hM]; simp
      have hor2 := hor.out
      generalize hT : r * 4294967296 + nth xs j = T at *
      have hT2 : T ≤ 18446744073709551615 := by omega
      have HT := Lib.hid hT
      have bQ : (0 : Int) ≤ (T : Int) / (d : Int) ∧ (T : Int) / (d : Int) ≤ 4294967295 := by rw [eQ]; omega
      have EQ := Lib.hid eQ
      have EM := Lib.hid eM
      obtain ⟨bQ1, bQ2⟩ := bQ
      clear hc hQ hM hT hor2 eQ eM
      go_wp2_with (refine op_or rfl rfl (r * 4294967296) (nth xs j) T rfl rfl (by go_num) rfl rfl (by show _ < 18446744073709551616; omega) (by show _ < 18446744073709551616; omega) hor.out ?_)
      go_roundw
      case rel =>
        refine ⟨j, o.set j Q, M, rfl, by omega, by rw [len_set]; exact hol, by rw [EM.out], hmod, OwnL.set hO.out j EQ.out (by unfold W32; omega), hstep.out, Below.setCell hbel (Nat.le_refl _) _⟩
      case measure => simp [intOf] <;> omega
    · obtain rfl : m = 0 := by omega
      have h0 : nv xs = d * nv o + r := by have h := hinv.out; rwa [List.drop_zero, List.drop_zero] at h
      have hdm := div_mod_of h0 hr
      have E1 := Lib.hid hdm.1
      have E2 := Lib.hid hdm.2
      clear hdm h0
      go_wp2_with (go_at_call 28; refine (norm_any hO.out.rd (by omega)).mono ?_; rintro e w4 ⟨v4, rfl, b4, o4⟩)
      have O4 := Lib.hid o4
      clear o4
      go_wp2
      go_ret3
      have o5 := O4.out
      rw [E1.out] at o5
      have h6 : R (.returned (.tuple #[v4, .int .u32 (r : Int), .bool true])) w4 := hR.out _ _ (Gives.mk (Ext.trans hbel b4) ⟨_, by rw [← E2.out], o5.mono hs⟩)
      exact h6
end Go.Proofs.Ytblbpelaleaonaa
