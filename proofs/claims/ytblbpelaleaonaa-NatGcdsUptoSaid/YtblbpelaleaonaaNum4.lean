/- Lists of bits; what the loops over them keep. -/
import Derived.Test.YtblbpelaleaonaaNum3
namespace Go.Att
open Go.RowKit

theorem len_nbits (o : List Bool) (d : Bool) : (o ++ [d]).length = o.length + 1 := by simp
theorem OwnB.snoc {e : TypeId} {B : Nat} {w : World} {v : Value} {o : List Bool} {n : Nat} {z d : Bool} (h : w.ownsRow B e 1 v n (bools o ++ [.bool z])) (hn : n = o.length + 1) (hz : z = d) : OwnB e B w v (o ++ [d]) := by
  subst hz hn
  unfold OwnB
  rw [bools_app, List.length_append]
  exact h
theorem bval_snoc (o : List Bool) (d : Bool) : bval (o ++ [d]) = bval o + 2 ^ o.length * d.toNat := by
  unfold bval
  rw [bn_app]
  show val 2 (bn o ++ [d.toNat]) = _
  rw [val_snoc, len_bn]
theorem bval_take_succ (xs : List Bool) (k : Nat) : bval (xs.take (k + 1)) = bval (xs.take k) + 2 ^ k * (nthB xs k).toNat := by
  unfold bval
  rw [bn_take, bn_take, val_take_succ, nth_bn]
theorem bval_take_ge (xs : List Bool) (k : Nat) (h : xs.length ≤ k) : bval (xs.take k) = bval xs := by rw [List.take_of_length_le h]
theorem bval_nil : bval [] = 0 := rfl
/-- the cut of bits -/
theorem take_bits {bs : List Bool} {n : Nat} (hn : n ≤ bs.length) (hz : ∀ i, n ≤ i → i < bs.length → nthB bs i = false) (hl : n = 0 ∨ nthB bs (n - 1) = true) : bs.take n = bitsOf (bval bs) := by
  apply bitsOf_of_bn
  rw [bn_take]
  unfold bval
  refine take_digs (by decide) (fit_bn bs) (by rw [len_bn]; exact hn) (fun i h1 h2 => ?_) ?_
  · rw [nth_bn, hz i h1 (by rwa [len_bn] at h2)]; rfl
  · rcases hl with hl | hl
    · exact .inl hl
    · exact .inr (by rw [nth_bn, hl]; decide)
theorem bit_dec (n : Nat) : ((((n : Int) % 2) == 1) : Bool) = (n % 2 == 1) := by
  rw [Bool.eq_iff_iff]; simp; omega
theorem bit_toNat (n : Nat) : (n % 2 == 1).toNat = n % 2 := by
  rcases Nat.mod_two_eq_zero_or_one n with h | h <;> simp [h]


theorem of_inner {o : List Bool} {xs : List Nat} {k x i ww : Nat} (hol : o.length = 32 * k + i) (hinv : bval o = nv (xs.take k) + 2 ^ (32 * k) * (x % 2 ^ i)) (hw : ww = x / 2 ^ i) :
    bval (o ++ [ww % 2 == 1]) = nv (xs.take k) + 2 ^ (32 * k) * (x % 2 ^ (i + 1)) := by
  rw [bval_snoc, hinv, bit_toNat, hol, hw, Nat.pow_succ, Nat.mod_mul, Nat.mul_add, Nat.pow_add]
  simp only [Nat.mul_assoc, Nat.add_assoc]
theorem of_outer {xs : List Nat} {k : Nat} (h : nth xs k ≤ 4294967295) : nv (xs.take k) + 2 ^ (32 * k) * (nth xs k % 2 ^ 32) = nv (xs.take (k + 1)) := by
  unfold nv
  rw [val_take_succ, pow32, Nat.mod_eq_of_lt (by omega)]

/-- adding digit by digit, to any base -/
theorem addB_step {B : Nat} {o a b : List Nat} {k cc t : Nat} (hol : o.length = k) (hinv : val B o + B ^ k * cc = val B (a.take k) + val B (b.take k)) (ht : t = cc + nth a k + nth b k) : val B (o ++ [t % B]) + B ^ (k + 1) * (t / B) = val B (a.take (k + 1)) + val B (b.take (k + 1)) := by
  rw [val_snoc, hol, val_take_succ, val_take_succ, Nat.pow_succ, Nat.add_assoc, carry_step, ht, Nat.mul_add, Nat.mul_add]
  omega
theorem badd_step {o a b : List Bool} {k cc t : Nat} (hol : o.length = k) (hinv : bval o + 2 ^ k * cc = bval (a.take k) + bval (b.take k)) (ht : t = cc + (nthB a k).toNat + (nthB b k).toNat) :
    bval (o ++ [t % 2 == 1]) + 2 ^ (k + 1) * (t / 2) = bval (a.take (k + 1)) + bval (b.take (k + 1)) := by
  unfold bval at *
  rw [bn_take, bn_take] at *
  rw [bn_app]
  show val 2 (bn o ++ [(t % 2 == 1).toNat]) + _ = _
  rw [bit_toNat]
  exact addB_step (by rw [len_bn]; exact hol) hinv (by rw [nth_bn, nth_bn]; exact ht)
theorem bsub_step {o a b : List Bool} {k c c' : Nat} {d : Bool} (hol : o.length = k) (hinv : bval (a.take k) + 2 ^ k * c = bval o + bval (b.take k)) (hd : (nthB a k).toNat + 2 * c' = d.toNat + c + (nthB b k).toNat) :
    bval (a.take (k + 1)) + 2 ^ (k + 1) * c' = bval (o ++ [d]) + bval (b.take (k + 1)) := by
  rw [bval_take_succ, bval_take_succ, bval_snoc, hol, Nat.pow_succ, Nat.mul_assoc]
  have h := congrArg (fun t => 2 ^ k * t) hd
  simp only [Nat.mul_add] at h
  omega
theorem bsub_end {o a b : List Bool} {c : Nat} (hol : o.length = a.length) (hle : bval b ≤ bval a) (hinv : bval (a.take a.length) + 2 ^ a.length * c = bval o + bval (b.take a.length)) : bval o = bval a - bval b := by
  have h1 := bval_lt a
  have h2 := bval_lt o
  rw [hol] at h2
  have h3 : bval (b.take a.length) = bval b := by
    unfold bval
    rw [bn_take]
    exact val_take_of_lt (by decide) _ _ (by show bval b < _; omega)
  rw [h3, bval_take_ge _ _ (Nat.le_refl _)] at hinv
  have hc : c = 0 := by
    by_cases h0 : c = 0
    · exact h0
    · exfalso
      have : 2 ^ a.length * 1 ≤ 2 ^ a.length * c := Nat.mul_le_mul_left _ (by omega)
      omega
  subst hc
  omega
/-- from the top of a group down: w holds the bits from j to e -/
theorem bval_drop (xs : List Bool) (k : Nat) (h : k < xs.length) : bval (xs.drop k) = (nthB xs k).toNat + 2 * bval (xs.drop (k + 1)) := by
  unfold bval
  rw [bn_drop, val_drop _ _ _ (by rw [len_bn]; exact h), nth_bn, bn_drop]
/-- bits j .. e -/
def seg (xs : List Bool) (j e : Nat) : Nat := bval ((xs.take e).drop j)
theorem seg_top (xs : List Bool) (e : Nat) : seg xs e e = 0 := by
  unfold seg; rw [List.drop_of_length_le (by simp; omega)]; rfl
theorem nthB_take (xs : List Bool) (k i : Nat) (h : i < k) : nthB (xs.take k) i = nthB xs i := by
  unfold nthB; simp [List.getD, List.getElem?_take_of_lt h]
theorem seg_down (xs : List Bool) (j e : Nat) (h : j < e) (he : e ≤ xs.length) : seg xs j e = 2 * seg xs (j + 1) e + (nthB xs j).toNat := by
  unfold seg
  rw [bval_drop _ _ (by simp; omega), nthB_take _ _ _ h]
  omega
theorem seg_lt (xs : List Bool) (j e : Nat) (he : e ≤ xs.length) : seg xs j e < 2 ^ (e - j) := by
  have := bval_lt ((xs.take e).drop j)
  rw [List.length_drop, List.length_take, Nat.min_eq_left he] at this
  exact this
theorem bval_take_drop (xs : List Bool) (k : Nat) (h : k ≤ xs.length) : bval xs = bval (xs.take k) + 2 ^ k * bval (xs.drop k) := by
  unfold bval
  rw [bn_take, bn_drop]
  exact val_take_drop 2 _ _ (by rw [len_bn]; exact h)
theorem seg_more (xs : List Bool) (i e : Nat) (hi : i ≤ e) (he : e ≤ xs.length) : bval (xs.take e) = bval (xs.take i) + 2 ^ i * seg xs i e := by
  have h := bval_take_drop (xs.take e) i (by simp; omega)
  rw [List.take_take, Nat.min_eq_left hi] at h
  exact h
theorem pow2_32 {n : Nat} (h : n ≤ 32) : 2 ^ n ≤ 4294967296 := by
  have : 2 ^ n ≤ 2 ^ 32 := Nat.pow_le_pow_right (by omega) h
  omega
theorem bitsOf_zero : bitsOf 0 = [] := by unfold bitsOf; rw [digs_zero]; rfl
theorem bitsOf_len (n k : Nat) : (bitsOf n).length ≤ k ↔ n < 2 ^ k := by rw [len_bitsOf]; exact digs_len 2 (by decide) n k
theorem bitsOf_blen (n : Nat) : (bitsOf n).length = blen n := by rw [len_bitsOf]; unfold blen; rfl
theorem word_step (u : Nat) (o : List Bool) (x : Nat) (hinv : o ++ bitsOf u = bitsOf x) (h : u ≠ 0) : (o ++ [u % 2 == 1]) ++ bitsOf (u / 2) = bitsOf x := by
  rw [← hinv, List.append_assoc]
  congr 1
  unfold bitsOf
  rw [digs_pos 2 (by decide) u h]
  rfl
theorem to_step {o : List Nat} {bs : List Bool} {k e : Nat} (hol : o.length = k) (hlt : 32 * k < bs.length) (he : e = min (32 * k + 32) bs.length) (hinv : nv o = bval (bs.take (32 * k))) : nv (o ++ [seg bs (32 * k) e]) = bval (bs.take (32 * (k + 1))) := by
  have h1 := seg_more bs (32 * k) e (by omega) (by omega)
  unfold nv at *
  rw [val_snoc, hinv, hol, pow32, ← h1]
  by_cases h : 32 * k + 32 ≤ bs.length
  · rw [he, Nat.min_eq_left h]; rfl
  · rw [List.take_of_length_le (by omega), List.take_of_length_le (by omega)]
theorem seg_fit {bs : List Bool} {k e m : Nat} (he : e ≤ bs.length) (he2 : e ≤ 32 * k + 32) (hm : 32 * k ≤ m) : seg bs m e ≤ 4294967295 := by
  have h1 := seg_lt bs m e he
  have h2 := pow2_32 (n := e - m) (by omega)
  omega
theorem seg_fit2 {bs : List Bool} {k e m : Nat} (he : e ≤ bs.length) (he2 : e ≤ 32 * k + 32) (hm : 32 * k < m) : seg bs m e ≤ 2147483647 := by
  have h1 := seg_lt bs m e he
  have h2 := pow_lt_32 (s := e - m) (by omega)
  omega
def SameFromB (a b : List Bool) (k : Nat) : Prop := ∀ j, k ≤ j → j < a.length → nthB a j = nthB b j
theorem sameB {x y k : Nat} (h : SameFromB (bitsOf x) (bitsOf y) k) : SameFrom (digs 2 x) (digs 2 y) k := by
  intro j h1 h2
  have := h j h1 (by rwa [len_bitsOf])
  rw [← bn_bitsOf, ← bn_bitsOf, nth_bn, nth_bn, this]
theorem bcmp_len {x y : Nat} (h : (bitsOf x).length < (bitsOf y).length) : x < y := by
  rw [len_bitsOf, len_bitsOf] at h
  exact digs_lt_of_len (by decide) h
theorem bcmp_end {x y : Nat} (hl : (bitsOf x).length = (bitsOf y).length) (hs : SameFromB (bitsOf x) (bitsOf y) 0) : cmpN x y = 0 := by
  rw [len_bitsOf, len_bitsOf] at hl
  exact cmp_end (by decide) hl (sameB hs)
theorem bcmp_lt {x y k : Nat} (hl : (bitsOf x).length = (bitsOf y).length) (hk : k < (bitsOf x).length) (hs : SameFromB (bitsOf x) (bitsOf y) (k + 1)) (h1 : nthB (bitsOf x) k = false) (h2 : nthB (bitsOf y) k = true) : cmpN x y = -1 := by
  rw [len_bitsOf, len_bitsOf] at hl
  rw [len_bitsOf] at hk
  exact cmp_stop_lt (by decide) hl hk (sameB hs) (by rw [← bn_bitsOf, ← bn_bitsOf, nth_bn, nth_bn, h1, h2]; decide)
theorem bcmp_gt {x y k : Nat} (hl : (bitsOf x).length = (bitsOf y).length) (hk : k < (bitsOf x).length) (hs : SameFromB (bitsOf x) (bitsOf y) (k + 1)) (h1 : nthB (bitsOf x) k = true) (h2 : nthB (bitsOf y) k = false) : cmpN x y = 1 := by
  rw [len_bitsOf, len_bitsOf] at hl
  rw [len_bitsOf] at hk
  exact cmp_stop_gt (by decide) hl hk (sameB hs) (by rw [← bn_bitsOf, ← bn_bitsOf, nth_bn, nth_bn, h1, h2]; decide)
theorem bval_app (a b : List Bool) : bval (a ++ b) = bval a + 2 ^ a.length * bval b := by
  unfold bval
  rw [bn_app, val_app, len_bn]
theorem bval_nays (n : Nat) : bval (nays n) = 0 := by
  unfold bval
  apply val_zeros
  intro x hx
  simp [bn, nays] at hx
  exact hx.2
theorem bval_shl (n : Nat) (bs : List Bool) : bval (nays n ++ bs) = bval bs * 2 ^ n := by
  rw [bval_app, bval_nays, len_nays, Nat.zero_add, Nat.mul_comm]
theorem bits_shr (x n : Nat) : (bitsOf x).drop n = bitsOf (x / 2 ^ n) := by
  have key : ∀ n x, (bitsOf x).drop n = bitsOf (x / 2 ^ n) := by
    intro n
    induction n with
    | zero => intro x; simp
    | succ n ih =>
      intro x
      by_cases h : x = 0
      · subst h; rw [bitsOf_zero]; simp [bitsOf_zero]
      · have e : bitsOf x = (x % 2 == 1) :: bitsOf (x / 2) := by
          unfold bitsOf
          rw [digs_pos 2 (by decide) x h]
          rfl
        rw [e, List.drop_succ_cons, ih, Nat.div_div_eq_div_mul, Nat.pow_succ, Nat.mul_comm]
  exact key n x
theorem bval_low (bs : List Bool) (k : Nat) : bval (bs.take k) = bval bs % 2 ^ k := by
  unfold bval
  rw [bn_take, val_mod (by decide) (fit_bn bs)]
theorem seg_zero (bs : List Bool) (e : Nat) : seg bs 0 e = bval (bs.take e) := by unfold seg; simp
theorem seg_low {bs : List Bool} {e : Nat} (he : e = min bs.length 64) : seg bs 0 e = bval bs % 2 ^ 64 := by
  rw [seg_zero, ← bval_low]
  by_cases h : bs.length ≤ 64
  · rw [he, Nat.min_eq_left h, List.take_of_length_le (by omega), List.take_of_length_le h]
  · rw [he, Nat.min_eq_right (by omega)]
theorem pow2_64 {n : Nat} (h : n ≤ 64) : 2 ^ n ≤ 18446744073709551616 := by
  have : 2 ^ n ≤ 2 ^ 64 := Nat.pow_le_pow_right (by omega) h
  omega
theorem seg_fit64 {bs : List Bool} {e m : Nat} (he : e ≤ bs.length) (he2 : e ≤ 64) : seg bs m e ≤ 18446744073709551615 := by
  have h1 := seg_lt bs m e he
  have h2 := pow2_64 (n := e - m) (by omega)
  omega
theorem seg_fit63 {bs : List Bool} {e m : Nat} (he : e ≤ bs.length) (he2 : e ≤ 64) (hm : 0 < m) : seg bs m e ≤ 9223372036854775807 := by
  have h1 := seg_lt bs m e he
  have : 2 ^ (e - m) ≤ 2 ^ 63 := Nat.pow_le_pow_right (by omega) (by omega)
  omega
theorem RdB.drop {w : World} {b off n cap m k : Nat} {xs : List Bool} (h : RdB w (.slice (some ⟨b, off, none⟩) n cap) xs) (hn : n = xs.length) (hm : m < xs.length) (hk : k = n - m) : RdB w (.slice (some ⟨b, off + m, none⟩) k (cap - m)) (xs.drop m) := by
  subst hn hk
  obtain ⟨a, c, hv, h1, h2, _, h5⟩ := h.shape
  simp only [Value.slice.injEq] at hv
  obtain ⟨rfl, _, rfl⟩ := hv
  have hl : (xs.drop m).length = xs.length - m := List.length_drop
  unfold RdB RdV
  rw [len_bools, hl, Nat.mul_one]
  refine ⟨rfl, _, _, rfl, by omega, by omega, (fun h => by cases h), fun i hi => ⟨b, off + m, rfl, ?_⟩⟩
  have hc := h.cell (m + i) (by omega)
  rw [at_bools _ _ (by rw [hl]; exact hi), Nat.add_assoc, hc]
  congr 2
  unfold nthB
  simp [List.getD]
def W64 : Nat := 18446744073709551616
end Go.Att
