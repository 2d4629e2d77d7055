/- attestref03.Mul -/
import Derived.Test.YtblbpelaleaonaaNum5
import Derived.Test.YtblbpelaleaonaaPRefAdd
import Derived.Test.YtblbpelaleaonaaPRefShl
namespace Go.Proofs.Ytblbpelaleaonaa
open Go.RowKit Go.Att

theorem bits_of_len {bs : List Bool} : (bitsOf (bval bs)).length ≤ bs.length := (bitsOf_len _ _).2 (bval_lt bs)
theorem mul_len {xa xb : List Bool} (k : Nat) (hk : k ≤ xb.length) : (bitsOf (bval xa * bval (xb.take k))).length ≤ xa.length + xb.length := by
  refine (bitsOf_len _ _).2 ?_
  have h1 := bval_lt xa
  have h2 := bval_lt (xb.take k)
  have h3 : 2 ^ (xb.take k).length ≤ 2 ^ xb.length := Nat.pow_le_pow_right (by decide) (by rw [List.length_take]; omega)
  rw [Nat.pow_add]
  exact Nat.mul_lt_mul'' h1 (Nat.lt_of_lt_of_le h2 h3)
theorem mul_bit1 {xa xb : List Bool} {k : Nat} (h : nthB xb k = true) : bval xa * bval (xb.take k) + bval xa * 2 ^ k = bval xa * bval (xb.take (k + 1)) := by
  rw [bval_take_succ, h, Nat.mul_add]; simp
theorem mul_bit0 {xa xb : List Bool} {k : Nat} (h : nthB xb k = false) : bval xa * bval (xb.take k) = bval xa * bval (xb.take (k + 1)) := by
  rw [bval_take_succ, h]; simp

theorem r3Mul_any {w : World} {va vb : Value} {xa xb : List Bool} (ha : RdB w va xa) (hb : RdB w vb xb) (hla0 : xa.length ≤ 274877906944) (hlb0 : xb.length ≤ 100000) :
    Calls Try.prog 15 #[va, vb] w (Gives w fun v' w' => OwnB 4 w.heap.size w' v' (bitsOf (bval xa * bval xb))) := by
  refine via fun R hR => ?_
  have HA := Lib.hid ha
  obtain ⟨b, cb, rfl, hlb, hmb, _, hcb⟩ := hb.shape
  have HCB := Lib.hid hcb
  clear hcb hb ha
  unfold maxLen at hmb
  go_enter Try.func15, Try.ntmps15
  go_wp2
  go_loopw [5, 10] (fun out i wr => ∃ (k : Nat), i = .int .i64 k ∧ k ≤ xb.length ∧ Hid (OwnB 4 w.heap.size wr out (bitsOf (bval xa * bval (xb.take k)))) ∧ Ext w wr) (fun _ i _ => xb.length - (intOf i).toNat)
  case atStart => exact ⟨0, rfl, Nat.zero_le _, by rw [List.take_zero, bval_nil, Nat.mul_zero, bitsOf_zero]; exact World.ownsRow_lit w #[] 0 (Nat.le_refl _) (Nat.zero_le _) rfl, Ext.alloc _ _⟩
  case round =>
    obtain ⟨k, rfl, hk, hO, hbel⟩ := hrel
    have hsz := hbel.size
    by_cases hlt : k < xb.length
    · obtain ⟨bb, ob, rfl, hc⟩ := HCB.out k hlt
      have hc' := Ext.cell hbel hc
      have hml := Lib.hid (mul_len (xa := xa) k hk)
      clear hc
      cases hB : nthB xb k <;> rw [hB] at hc'
      · have E := Lib.hid (mul_bit0 (xa := xa) hB)
        clear hB
        go_wp2
        go_roundw
        case rel => exact ⟨k + 1, by go_num, by omega, by rw [← E.out]; exact hO.out, hbel⟩
        case measure => simp [intOf] <;> omega
      · have E := Lib.hid (mul_bit1 (xa := xa) hB)
        clear hB
        go_wp2_with fail
        refine (rShl_any k (by omega) (HA.out.ext hbel) (by omega)).mono ?_
        rintro e w1 ⟨v1, rfl, b1, o1⟩
        have O1 := Lib.hid o1
        clear o1
        go_wp2_with fail
        refine (rAdd_any (hO.out.rd.ext b1) O1.out.rd (by have := hml.out; omega) (by have := blen_shl (n := k) (bits_of_len (bs := xa)); omega)).mono ?_
        rintro e w2 ⟨v2, rfl, b2, o2⟩
        have O2 := Lib.hid o2
        clear o2
        rw [bval_bitsOf, bval_bitsOf, E.out] at O2
        go_wp2
        go_roundw
        case rel => exact ⟨k + 1, by go_num, by omega, OwnB.mono O2.out (by have := b1.size; omega), Ext.trans hbel (Ext.trans b1 b2)⟩
        case measure => simp [intOf] <;> omega
    · have e : Hid (xb.take k = xb) := List.take_of_length_le (by omega)
      go_wp2
      have ho := hO.out
      rw [e.out] at ho
      exact hR.out _ _ (Gives.mk hbel ho)
end Go.Proofs.Ytblbpelaleaonaa
