/- digits.Tens; attestref04.Parse, Tens; attestlaw04.awake -/
import Derived.Test.YtgajpmcjjefghaaGreatDoorPParse
import Derived.Test.YtgajpmcjjefghaaGreatDoorPText
import Derived.Test.YtgajpmcjjefghaaGreatDoorRefAll
import Derived.Deep.RegionHeld3
namespace Go.Proofs.YtgajpmcjjefghaaGreatDoor
open Go.RowKit Go.Att

/-- No nought at the end, by size. -/
def Top (xs : List Nat) : Prop := W32 ^ (xs.length - 1) ≤ nv xs
theorem Top.canon {xs : List Nat} (hf : Fit W32 xs) (h : Top xs) : xs = limbs (nv xs) := by
  unfold limbs nv
  refine digs_canon (by decide) hf ?_
  by_cases h0 : xs.length = 0
  · exact .inl h0
  · right
    intro hl
    have h1 := val_take_succ W32 xs (xs.length - 1)
    rw [hl, Nat.mul_zero, Nat.add_zero, show xs.length - 1 + 1 = xs.length by omega, List.take_of_length_le (Nat.le_refl _)] at h1
    have h2 := val_lt (B := W32) (by decide) (hf.take (xs.length - 1))
    rw [List.length_take, Nat.min_eq_left (by omega)] at h2
    unfold Top nv at h
    omega
theorem Top.grow {xs ys : List Nat} {b : Nat} (h : Top xs) (hb : 1 ≤ b) (hn : nv ys = nv xs * b + 0) (hy : ys.length = xs.length ∨ W32 ^ (ys.length - 1) ≤ nv ys) : Top ys := by
  rcases hy with hy | hy
  · unfold Top at h ⊢
    rw [hy, hn]
    have : nv xs * 1 ≤ nv xs * b := Nat.mul_le_mul_left _ hb
    omega
  · exact hy

set_option maxHeartbeats 1000000 in
theorem tens_ok {w : World} {n : Nat} (hn : n ≤ 20000) :
    Calls Tryz.prog 40 #[.int .i64 n] w (Gives w fun v' w' => ∃ v, v' = .tuple #[v, .int .i64 0] ∧ OwnL 57 w.heap.size w' v (limbs (10 ^ n))) := by
  refine via fun R hR => ?_
  have h0 : decide ((n : Int) < 0) = false := decide_eq_false (by omega)
  have h1 : decide ((20000 : Int) < n) = false := decide_eq_false (by omega)
  go_enter Tryz.func40, Tryz.ntmps40
  go_wp2_with fail
  go_loopw [0, 4] (fun k a wr => ∃ (m : Nat) (xs : List Nat), k = .int .i64 m ∧ m ≤ n ∧ Hid (OwnL 57 w.heap.size wr a xs) ∧ Ext w wr ∧ Hid (nv xs * 10 ^ m = 10 ^ n) ∧ Hid (Top xs) ∧ xs.length + m ≤ n + 1) (fun k _ _ => (intOf k).toNat)
  case atStart => exact ⟨n, [1], rfl, Nat.le_refl _, ⟨World.ownsRow_lit w #[.int .u32 1] 1 (Nat.le_refl _) (by decide) rfl, Fit.one (by decide)⟩, Ext.alloc _ _, by show _ = _; simp [nv, val], by show _ ≤ _; simp [nv, val], by simp; omega⟩
  case round =>
    obtain ⟨m, xs, rfl, hm, hO, hbel, hinv, ht, hxl⟩ := hrel
    have hsz := hbel.size
    by_cases h9 : 9 ≤ m
    · have hd9 : decide ((9 : Int) ≤ m) = true := decide_eq_true (by omega)
      go_wp2_with fail
      refine (grow_to (b := 1000000000) (more := 0) rfl rfl hO.out hsz (by decide) (by decide) (by omega)).mono ?_
      rintro e w2 ⟨v2, ys, rfl, hO2, hb2, hn2, hl2, hy2⟩
      have HO2 := Lib.hid hO2
      have HI2 : Hid (nv ys * 10 ^ (m - 9) = 10 ^ n) := by
        show _ = _
        rw [hn2, Nat.add_zero, show (1000000000 : Nat) = 10 ^ 9 from rfl, Nat.mul_assoc, ← Nat.pow_add, show 9 + (m - 9) = m by omega]
        exact hinv.out
      have HT2 : Hid (Top ys) := ht.out.grow (by decide) hn2 hy2
      clear hO2 hn2 hy2
      go_wp2
      go_roundw
      case rel => exact ⟨m - 9, ys, by go_num, by omega, HO2.out, Below.trans hbel hb2, HI2.out, HT2.out, by omega⟩
      case measure => simp [intOf] <;> omega
    · have hd9 : decide ((9 : Int) ≤ m) = false := decide_eq_false (by omega)
      go_wp2_with fail
      go_loopw [0, 4] (fun k a wr => ∃ (m : Nat) (xs : List Nat), k = .int .i64 m ∧ m ≤ n ∧ Hid (OwnL 57 w.heap.size wr a xs) ∧ Ext w wr ∧ Hid (nv xs * 10 ^ m = 10 ^ n) ∧ Hid (Top xs) ∧ xs.length + m ≤ n + 1) (fun k _ _ => (intOf k).toNat)
      case atStart => exact ⟨m, xs, rfl, hm, hO, hbel, hinv, ht, hxl⟩
      case round =>
        obtain ⟨m, xs, rfl, hm, hO, hbel, hinv, ht, hxl⟩ := hrel
        have hsz := hbel.size
        by_cases h1 : 0 < m
        · have hd1 : decide (0 < m) = true := decide_eq_true h1
          go_wp2_with fail
          refine (grow_to (b := 10) (more := 0) rfl rfl hO.out hsz (by decide) (by decide) (by omega)).mono ?_
          rintro e w2 ⟨v2, ys, rfl, hO2, hb2, hn2, hl2, hy2⟩
          have HO2 := Lib.hid hO2
          have HI2 : Hid (nv ys * 10 ^ (m - 1) = 10 ^ n) := by
            show _ = _
            rw [hn2, Nat.add_zero, Nat.mul_assoc, show (10 : Nat) * 10 ^ (m - 1) = 10 ^ m by rw [Nat.mul_comm, ← Nat.pow_succ, show (m - 1).succ = m by omega]]
            exact hinv.out
          have HT2 : Hid (Top ys) := ht.out.grow (by decide) hn2 hy2
          clear hO2 hn2 hy2
          go_wp2
          go_roundw
          case rel => exact ⟨m - 1, ys, by go_num, by omega, HO2.out, Below.trans hbel hb2, HI2.out, HT2.out, by omega⟩
          case measure => simp [intOf] <;> omega
        · obtain rfl : m = 0 := by omega
          have hd1 : decide (0 < 0) = false := rfl
          have HX : Hid (xs = limbs (10 ^ n)) := by
            show _ = _
            have h2 := ht.out.canon hO.out.2
            have h3 := hinv.out
            rw [Nat.pow_zero, Nat.mul_one] at h3
            rw [h3] at h2
            exact h2
          go_wp2_with fail
          exact hR.out _ _ (Gives.mk hbel ⟨_, rfl, HX.out ▸ hO.out⟩)
theorem tens_neg {w : World} {n : Int} (hn : n < 0) :
    Calls Tryz.prog 40 #[.int .i64 n] w (Gives w fun v' _ => v' = .tuple #[.slice none 0 0, .int .i64 1]) := by
  refine via fun R hR => ?_
  have h0 : decide (n < 0) = true := decide_eq_true hn
  go_enter Tryz.func40, Tryz.ntmps40
  go_wp2_with fail
  exact hR.out _ _ (Gives.mk (Ext.refl _) rfl)
theorem tens_big {w : World} {n : Int} (hn : 20000 < n) :
    Calls Tryz.prog 40 #[.int .i64 n] w (Gives w fun v' _ => v' = .tuple #[.slice none 0 0, .int .i64 2]) := by
  refine via fun R hR => ?_
  have h0 : decide (n < 0) = false := decide_eq_false (by omega)
  have h1 : decide (20000 < n) = true := decide_eq_true hn
  go_enter Tryz.func40, Tryz.ntmps40
  go_wp2_with fail
  exact hR.out _ _ (Gives.mk (Ext.refl _) rfl)

theorem r3mul_4 {w : World} {va vb : Value} (n m : Nat) (ha : RdB w va (bitsOf n)) (hb : RdB w vb (bitsOf m)) (hla : (bitsOf n).length ≤ 50000) (hlb : (bitsOf m).length ≤ 50000) :
    Calls Tryz.prog 33 #[va, vb] w (Gives w fun v' w' => OwnB 4 w.heap.size w' v' (bitsOf (n * m))) := by
  have h := r3Mul_any ha hb (by omega) (by omega)
  rw [bval_bitsOf, bval_bitsOf] at h
  exact h
theorem radd_4 {w : World} {va vb : Value} (n m : Nat) (ha : RdB w va (bitsOf n)) (hb : RdB w vb (bitsOf m)) (hla : (bitsOf n).length ≤ 50000) (hlb : (bitsOf m).length ≤ 50000) :
    Calls Tryz.prog 49 #[va, vb] w (Gives w fun v' w' => OwnB 4 w.heap.size w' v' (bitsOf (n + m))) := by
  have h := rAdd_any ha hb (by omega) (by omega)
  rw [bval_bitsOf, bval_bitsOf] at h
  exact h
theorem word_4 {w : World} {z : Int} (u : Nat) (hz : z = (u : Int)) (hu : u ≤ 18446744073709551615) :
    Calls Tryz.prog 34 #[.int .u64 z] w (Gives w fun v' w' => OwnB 4 w.heap.size w' v' (bitsOf u)) := by
  subst hz
  exact rWord_any u hu
theorem bits_lt {n k : Nat} (h : n < 2 ^ k) : (bitsOf n).length ≤ k := (bitsOf_len n k).2 h
theorem pow10_bits (n : Nat) : 10 ^ n < 2 ^ (4 * n + 1) := by
  induction n with
  | zero => decide
  | succ n ih => rw [Nat.pow_succ, show 4 * (n + 1) + 1 = (4 * n + 1) + 4 by omega, Nat.pow_add]; omega

theorem r4tens_any {w : World} {n : Nat} (hn : n ≤ 2000) :
    Calls Tryz.prog 35 #[.int .i64 n] w (Gives w fun v' w' => OwnB 4 w.heap.size w' v' (bitsOf (10 ^ n))) := by
  refine via fun R hR => ?_
  go_enter Tryz.func35, Tryz.ntmps35
  go_wp2_with fail
  refine (word_4 1 rfl (by decide)).mono ?_
  rintro e w1 ⟨v1, rfl, b1, o1⟩
  have O1 := Lib.hid o1
  clear o1
  go_wp2_with fail
  go_loopw [3, 4] (fun b i wr => ∃ k : Nat, i = .int .i64 k ∧ k ≤ n ∧ Hid (OwnB 4 w.heap.size wr b (bitsOf (10 ^ k))) ∧ Ext w wr) (fun _ i _ => n - (intOf i).toNat)
  case atStart => exact ⟨0, rfl, Nat.zero_le _, O1.out, b1⟩
  case round =>
    obtain ⟨k, rfl, hk, hO, hbel⟩ := hrel
    have hsz := hbel.size
    by_cases hlt : k < n
    · go_wp2_with fail
      refine (word_4 10 rfl (by decide)).mono ?_
      rintro e w2 ⟨v2, rfl, b2, o2⟩
      have O2 := Lib.hid o2
      have hb10 : (bitsOf (10 ^ k)).length ≤ 50000 := Nat.le_trans (bits_lt (pow10_bits k)) (by omega)
      have hs2 := Below.size b2
      clear o2
      go_wp2_with fail
      refine (r3mul_4 _ _ (hO.out.rd.ext b2) O2.out.rd hb10 (Nat.le_trans (bits_lt (k := 4) (by decide)) (by decide))).mono ?_
      rintro e w3 ⟨v3, rfl, b3, o3⟩
      have O3 : Hid (OwnB 4 w.heap.size w3 v3 (bitsOf (10 ^ (k + 1)))) := by rw [Nat.pow_succ]; exact o3.mono (by omega)
      clear o3
      go_wp2
      go_roundw
      case rel => exact ⟨k + 1, by go_num, by omega, O3.out, Ext.trans hbel (Ext.trans b2 b3)⟩
      case measure => simp [intOf] <;> omega
    · obtain rfl : k = n := by omega
      go_wp2_with fail
      exact hR.out _ _ (Gives.mk hbel hO.out)
end Go.Proofs.YtgajpmcjjefghaaGreatDoor
