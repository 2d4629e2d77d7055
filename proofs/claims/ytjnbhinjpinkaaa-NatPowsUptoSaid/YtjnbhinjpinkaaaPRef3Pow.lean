/- attestref03.Pow -/
import Derived.Test.YtjnbhinjpinkaaaNumAll
import Derived.Test.YtjnbhinjpinkaaaRefAll
namespace Go.Proofs.Ytjnbhinjpinkaaa
open Go.RowKit Go.Att

theorem r3Pow_any {w : World} {va : Value} {x : Nat} (n : Nat) (hn : n ≤ 1000) (ha : RdB w va (bitsOf x)) (hb : n = 0 ∨ blen x ≤ 100000 / n) :
    Calls Try.prog 18 #[va, .int .i64 n] w (Gives w fun v' w' => OwnB 4 w.heap.size w' v' (bitsOf (x ^ n))) := by
  refine via fun R hR => ?_
  have HA := Lib.hid ha
  have HB := Lib.hid hb
  have hx : n = 0 ∨ (bitsOf x).length ≤ 100000 := by
    rcases hb with h | h
    · exact .inl h
    · exact .inr (by rw [bitsOf_blen]; exact Nat.le_trans h (Nat.div_le_self _ _))
  clear ha hb
  go_enter Try.func18, Try.ntmps18
  go_wp2_with fail
  refine (rWord_any 1 (by omega)).mono ?_
  rintro e w1 ⟨v1, rfl, b1, o1⟩
  have O1 := Lib.hid o1
  clear o1
  go_wp2_with fail
  go_loopw [5, 6] (fun out i wr => ∃ (k : Nat), i = .int .i64 k ∧ k ≤ n ∧ Hid (OwnB 4 w.heap.size wr out (bitsOf (x ^ k))) ∧ Ext w wr) (fun _ i _ => n - (intOf i).toNat)
  case atStart => exact ⟨0, rfl, Nat.zero_le _, by rw [Nat.pow_zero]; exact O1.out, b1⟩
  case round =>
    obtain ⟨k, rfl, hk, hO, hbel⟩ := hrel
    by_cases hlt : k < n
    · have hl : (bitsOf x).length ≤ 100000 := by omega
      have hpl := pow_bits HB.out hk
      have hs := hbel.size
      go_wp2_with fail
      refine (r3Mul_any hO.out.rd (HA.out.ext hbel) (by omega) hl).mono ?_
      rintro e w2 ⟨v2, rfl, b2, o2⟩
      have O2 := Lib.hid o2
      clear o2
      rw [bval_bitsOf, bval_bitsOf, ← Nat.pow_succ] at O2
      go_wp2_with fail
      go_roundw
      case rel => exact ⟨k + 1, by go_num, by omega, O2.out.mono hs, Ext.trans hbel b2⟩
      case measure => simp [intOf] <;> omega
    · have e : Hid (k = n) := by show _ = _; omega
      go_wp2_with fail
      exact hR.out _ _ (Gives.mk hbel (by rw [← e.out]; exact hO.out))
end Go.Proofs.Ytjnbhinjpinkaaa
