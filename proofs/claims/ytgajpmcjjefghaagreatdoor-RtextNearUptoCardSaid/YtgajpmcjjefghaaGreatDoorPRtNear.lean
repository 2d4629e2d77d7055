/- How near a decimal text lies: the plain laws. -/
import Derived.Test.YtgajpmcjjefghaaGreatDoorPRtDecP
import Derived.Test.YtgajpmcjjefghaaGreatDoorRatAll
namespace Go.Proofs.YtgajpmcjjefghaaGreatDoor
open Go.RowKit Go.Att

theorem mkRat_less (a c : Int) {b d : Nat} (hb : b ≠ 0) (hd : d ≠ 0) : mkRat a b - mkRat c d = mkRat (a * d - c * b) (b * d) := by
  rw [Rat.sub_eq_add_neg, Rat.neg_mkRat, Rat.mkRat_add_mkRat _ _ hb hd]
  congr 1
  rw [Int.neg_mul, Int.sub_eq_add_neg]
theorem mkRat_nn (n : Int) {d : Nat} (hd : d ≠ 0) : 0 ≤ mkRat n d ↔ 0 ≤ n := by
  rw [← Rat.divInt_ofNat]
  exact Rat.divInt_nonneg_iff_of_pos_right (by omega)
theorem sign_nn (p : Rat) : 0 ≤ p.num.sign ↔ 0 ≤ p := by rw [Int.sign_nonneg_iff, Rat.num_nonneg]
theorem absQ_mkQ (s : Bool) (n d : Nat) (hd : d ≠ 0) : absQ (mkQ s n d) = mkRat n d := by
  unfold absQ
  rw [mkQ_abs _ _ _ hd, mkQ_den _ _ _ hd, mkQ_sg _ _ _ ((n / Nat.gcd n d : Nat) : Int) rfl]
  have hg : 0 < Nat.gcd n d := Nat.gcd_pos_of_pos_right _ (Nat.pos_of_ne_zero hd)
  have h1 : n / Nat.gcd n d * Nat.gcd n d = n := Nat.div_mul_cancel (Nat.gcd_dvd_left _ _)
  have h2 : d / Nat.gcd n d * Nat.gcd n d = d := Nat.div_mul_cancel (Nat.gcd_dvd_right _ _)
  have h3 : d / Nat.gcd n d ≠ 0 := fun h => by rw [h, Nat.zero_mul] at h2; exact hd h2.symm
  refine (Rat.mkRat_eq_iff h3 hd).2 ?_
  rw [← Int.natCast_mul, ← Int.natCast_mul]
  congr 1
  generalize Nat.gcd n d = g at *
  generalize n / g = a at *
  generalize d / g = b at *
  rw [← h1, ← h2, Nat.mul_assoc, Nat.mul_comm g b, ← Nat.mul_assoc]
theorem absQ_mk (q : Rat) : absQ q = mkRat (q.num.natAbs : Int) q.den := by
  unfold absQ
  exact mkQ_sg _ _ _ _ rfl
theorem tens_ne (k : Nat) : 10 ^ k ≠ 0 := Nat.pos_iff_ne_zero.1 (Nat.pow_pos (by decide))
theorem near_off (q : Rat) (k : Nat) : absQ q - absQ (decV q k) = mkRat ((q.num.natAbs : Int) * ((10 ^ k : Nat) : Int) - (decQ q k : Int) * (q.den : Int)) (q.den * 10 ^ k) := by
  rw [absQ_mk]
  unfold decV
  rw [absQ_mkQ _ _ _ (tens_ne k), mkRat_less _ _ q.den_nz (tens_ne k)]
theorem off_val (q : Rat) (k : Nat) : (q.num.natAbs : Int) * ((10 ^ k : Nat) : Int) - (decQ q k : Int) * (q.den : Int) = ((q.num.natAbs * 10 ^ k % q.den : Nat) : Int) := by
  have h := Nat.div_add_mod (q.num.natAbs * 10 ^ k) q.den
  rw [← Int.natCast_mul, ← Int.natCast_mul]
  unfold decQ
  rw [Nat.mul_comm (_ / _) q.den]
  omega
theorem near_lo (q : Rat) (k : Nat) : 0 ≤ (absQ q - absQ (decV q k)).num.sign := by
  rw [sign_nn, near_off, off_val, mkRat_nn _ (Nat.mul_ne_zero q.den_nz (tens_ne k))]
  exact Int.natCast_nonneg _
/-- One tenth, so many times. -/
def uQ : Nat → Rat
  | 0 => ((1 : Int) : Rat)
  | k + 1 => uQ k * (((1 : Int) : Rat) / ((10 : Int) : Rat))
theorem uQ_eq : ∀ k, uQ k = mkRat 1 (10 ^ k)
  | 0 => by show ((1 : Int) : Rat) = _; decide +kernel
  | k + 1 => by
    show uQ k * _ = _
    rw [uQ_eq k, show (((1 : Int) : Rat) / ((10 : Int) : Rat)) = mkRat 1 10 by decide +kernel, Rat.mkRat_mul_mkRat, ← Nat.pow_succ]
    rfl
theorem uQ_sz {k : Nat} (h : k ≤ 40) : Sz 8 (uQ k) := by
  rw [uQ_eq, ← mkQ_sg false 1 (10 ^ k) 1 rfl]
  exact Sz.of (tens_ne k) (Nat.le_trans limbs_one_len (by decide)) (Nat.le_trans (limbs_ten k) (by omega))
theorem near_hi (q : Rat) (k : Nat) : (absQ q - absQ (decV q k) - uQ k).num.sign < 0 := by
  refine Int.not_le.1 fun h => ?_
  rw [sign_nn, near_off, off_val, uQ_eq, mkRat_less _ _ (Nat.mul_ne_zero q.den_nz (tens_ne k)) (tens_ne k), mkRat_nn _ (Nat.mul_ne_zero (Nat.mul_ne_zero q.den_nz (tens_ne k)) (tens_ne k))] at h
  have hlt : q.num.natAbs * 10 ^ k % q.den < q.den := Nat.mod_lt _ (Nat.pos_of_ne_zero q.den_nz)
  have hT : 0 < 10 ^ k := Nat.pow_pos (by decide)
  rw [Int.one_mul, ← Int.natCast_mul] at h
  have h2 : q.num.natAbs * 10 ^ k % q.den * 10 ^ k < q.den * 10 ^ k := Nat.mul_lt_mul_of_pos_right hlt hT
  omega
theorem dec_sign (q : Rat) (k : Nat) : (decV q k).num.sign = 0 ∨ (decV q k).num.sign = q.num.sign := by
  by_cases h0 : decQ q k = 0
  · left
    unfold decV
    rw [h0, mkQ_sg _ _ _ 0 (by cases decN q k <;> rfl)]
    simp
  · right
    unfold decV decN
    rw [mkQ_num' _ _ _ (tens_ne k), decide_eq_true h0, Bool.and_true]
    have hg : 0 < decQ q k / Nat.gcd (decQ q k) (10 ^ k) := Nat.div_pos (Nat.le_of_dvd (Nat.pos_of_ne_zero h0) (Nat.gcd_dvd_left _ _)) (Nat.gcd_pos_of_pos_left _ (Nat.pos_of_ne_zero h0))
    generalize decQ q k / Nat.gcd (decQ q k) (10 ^ k) = m at *
    by_cases hn : q.num < 0
    · rw [decide_eq_true hn, Int.sign_eq_neg_one_of_neg hn]
      exact Int.sign_eq_neg_one_of_neg (by show -(m : Int) < 0; omega)
    · rw [decide_eq_false hn]
      have hp : 0 < q.num := by
        refine Int.lt_iff_le_and_ne.2 ⟨Int.not_lt.1 hn, fun h => h0 ?_⟩
        unfold decQ
        rw [← h]
        simp
      rw [Int.sign_eq_one_of_pos hp]
      exact Int.sign_eq_one_of_pos (by show 0 < (m : Int); omega)
theorem decV_sz {q : Rat} {k : Nat} (hs : Sz 8 q) (hk : k ≤ 1000) : Sz 134 (decV q k) := by
  unfold decV
  exact Sz.of (tens_ne k) (decQ_len hs hk) (Nat.le_trans (limbs_ten k) (by omega))
end Go.Proofs.YtgajpmcjjefghaaGreatDoor
