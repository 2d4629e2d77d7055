/- attestref03.Gcd -/
import Derived.Test.YtblbpelaleaonaaPRef3DivMod
import Derived.Deep.LoopGhost
namespace Go.Proofs.Ytblbpelaleaonaa
open Go.RowKit Go.Att

theorem bitsOf_pos {y : Nat} : 0 < (bitsOf y).length ↔ y ≠ 0 := by
  rw [bitsOf_blen]
  constructor
  · intro h h0; rw [h0, blen_zero] at h; omega
  · exact blen_pos

set_option maxHeartbeats 1000000 in
theorem r3Gcd_any {w : World} {va vb : Value} {A B : Nat} (ha : RdB w va (bitsOf A)) (hb : RdB w vb (bitsOf B)) (hna : (bitsOf A).length ≤ 274877906944) (hnb : (bitsOf B).length ≤ 274877906944) :
    Calls Try.prog 24 #[va, vb] w (Gives w fun v' w' => RdB w' v' (bitsOf (Nat.gcd A B))) := by
  refine via fun R hR => ?_
  have HA := Lib.hid ha
  have HB := Lib.hid hb
  clear ha hb
  go_enter Try.func24, Try.ntmps24
  go_wp2_with fail
  go_loopg [0, 1] B (fun gk s0 s1 wr => ∃ (x y : Nat), y = gk ∧ (bitsOf x).length ≤ 274877906944 ∧ (bitsOf y).length ≤ 274877906944 ∧ Hid (RdB wr s0 (bitsOf x)) ∧ Hid (RdB wr s1 (bitsOf y)) ∧ Hid (Nat.gcd x y = Nat.gcd A B) ∧ Ext w wr)
  case atStart => exact ⟨_, _, rfl, by omega, by omega, HA.out, HB.out, rfl, Ext.refl _⟩
  case round =>
    obtain ⟨x, y, rfl, hlx, hly, hO, hP, hg, hbel⟩ := hrel
    obtain ⟨b, cb, rfl, hcb1, hmb, _, _⟩ := hP.out.shape
    unfold maxLen at hmb
    by_cases h0 : y = 0
    · have hl0 : (bitsOf y).length ≤ 0 := by have := (bitsOf_pos (y := y)); omega
      have E : Hid (x = Nat.gcd A B) := by show _ = _; rw [← hg.out, h0, Nat.gcd_zero_right]
      clear h0
      go_wp2_with fail
      exact hR.out _ _ (Gives.mk hbel (by rw [← E.out]; exact hO.out))
    · have hl0 : 0 < (bitsOf y).length := bitsOf_pos.2 h0
      have H0 := Lib.hid h0
      have E : Hid (Nat.gcd y (x % y) = Nat.gcd A B) := by
        show _ = _
        rw [← hg.out, Nat.gcd_comm y, ← Nat.gcd_rec, Nat.gcd_comm]
      have hmod : x % y < y := Nat.mod_lt _ (by omega)
      have hml := blen_mono (Nat.le_of_lt hmod)
      clear h0
      go_wp2_with fail
      refine (r3DivMod_any hO.out hP.out H0.out (by omega) (by omega)).mono ?_
      rintro e w3 ⟨_, rfl, b3, q3, r3, rfl, _, o3⟩
      rw [bval_bitsOf] at o3
      have O3 := Lib.hid o3
      clear o3
      go_wp2_with fail
      go_roundg (x % y)
      case measure => exact hmod
      case rel => exact ⟨y, x % y, rfl, by omega, by omega, hP.out.ext b3, O3.out.rd, E.out, Ext.trans hbel b3⟩
end Go.Proofs.Ytblbpelaleaonaa
