/- How long sums, differences and shifts are in bits. -/
import Derived.Test.YtblbpelaleaonaaNum4
namespace Go.Att
theorem blen_add {a b L : Nat} (ha : (bitsOf a).length ≤ L) (hb : (bitsOf b).length ≤ L) : (bitsOf (a + b)).length ≤ L + 1 := by
  have h1 := (bitsOf_len a L).1 ha
  have h2 := (bitsOf_len b L).1 hb
  exact (bitsOf_len _ _).2 (by rw [Nat.pow_succ]; omega)
theorem blen_mono {a b : Nat} (h : a ≤ b) : (bitsOf a).length ≤ (bitsOf b).length := by
  have h1 := (bitsOf_len b _).1 (Nat.le_refl _)
  exact (bitsOf_len _ _).2 (Nat.lt_of_le_of_lt h h1)
theorem blen_shl {a n L : Nat} (ha : (bitsOf a).length ≤ L) : (bitsOf (a * 2 ^ n)).length ≤ L + n := by
  have h1 := (bitsOf_len a L).1 ha
  exact (bitsOf_len _ _).2 (by rw [Nat.pow_add]; exact Nat.mul_lt_mul_of_pos_right h1 (Nat.two_pow_pos n))
theorem blen_nv {xs : List Nat} (h : Fit W32 xs) : (bitsOf (nv xs)).length ≤ 32 * xs.length := by
  have h1 := nv_lt h
  rw [pow32] at h1
  exact (bitsOf_len _ _).2 h1
theorem limbs_mono {a b : Nat} (h : a ≤ b) : (limbs a).length ≤ (limbs b).length :=
  (limbs_len _ _).2 (Nat.lt_of_le_of_lt h ((limbs_len _ _).1 (Nat.le_refl _)))
theorem limbs_add {a b L : Nat} (ha : (limbs a).length ≤ L) (hb : (limbs b).length ≤ L) : (limbs (a + b)).length ≤ L + 1 := by
  have h1 := (limbs_len a L).1 ha
  have h2 := (limbs_len b L).1 hb
  refine (limbs_len _ _).2 ?_
  rw [Nat.pow_succ]
  have : W32 ^ L * 2 ≤ W32 ^ L * W32 := Nat.mul_le_mul_left _ W32_ge
  omega
theorem limbs_shl {a n L : Nat} (ha : (limbs a).length ≤ L) : (limbs (a * 2 ^ n)).length ≤ L + n / 32 + 1 := by
  have h1 := (limbs_len a L).1 ha
  refine (limbs_len _ _).2 ?_
  rw [pow32] at h1 ⊢
  calc a * 2 ^ n < 2 ^ (32 * L) * 2 ^ n := Nat.mul_lt_mul_of_pos_right h1 (Nat.two_pow_pos n)
    _ = 2 ^ (32 * L + n) := (Nat.pow_add _ _ _).symm
    _ ≤ 2 ^ (32 * (L + n / 32 + 1)) := Nat.pow_le_pow_right (by omega) (by omega)
theorem blen_of_limbs {x L : Nat} (h : (limbs x).length ≤ L) : blen x ≤ 32 * L := by
  have h1 := (limbs_len x L).1 h
  rw [pow32] at h1
  exact (blen_le _ _).2 h1
theorem bits_of_limbs {x L : Nat} (h : (limbs x).length ≤ L) : (bitsOf x).length ≤ 32 * L := by rw [bitsOf_blen]; exact blen_of_limbs h
end Go.Att
