/- Single bits of a number, and its lowest one. -/
import Derived.Test.YtndjddeiilggpaaDoorNumAll
import Derived.Lib.TrailingZeros
namespace Go.Att

theorem nthB_drop (bs : List Bool) (k : Nat) : nthB bs k = nthB (bs.drop k) 0 := by
  unfold nthB
  simp [List.getD]
theorem nthB_bits (x k : Nat) : nthB (bitsOf x) k = (x / 2 ^ k % 2 == 1) := by
  rw [nthB_drop, bits_shr]
  generalize x / 2 ^ k = y
  by_cases h : y = 0
  · subst h; rw [bitsOf_zero]; unfold nthB; rfl
  · unfold bitsOf nthB
    rw [digs_pos 2 (by decide) y h]
    rfl
/-- A limb's bit is the number's. -/
theorem limb_bit {xs : List Nat} (hf : Fit W32 xs) (k r : Nat) (hr : r < 32) : nv xs / 2 ^ (32 * k + r) % 2 = nth xs k / 2 ^ r % 2 := by
  have h1 : nv xs / 2 ^ (32 * k + r) = nv xs / W32 ^ k / 2 ^ r := by
    rw [Nat.pow_add, ← Nat.div_div_eq_div_mul, Nat.pow_mul]; rfl
  have h2 : nv xs / W32 ^ k = nth xs k + W32 * val W32 (xs.drop (k + 1)) := by
    unfold nv
    by_cases hk : k < xs.length
    · rw [val_take_drop W32 xs k (by omega), Nat.add_mul_div_left _ _ (Nat.pow_pos (by decide)), Nat.div_eq_of_lt (by
        have := val_lt (B := W32) (by decide) (xs := xs.take k) (fun x hx => hf x (List.mem_of_mem_take hx))
        rwa [List.length_take, Nat.min_eq_left (by omega)] at this), Nat.zero_add, val_drop W32 xs k hk]
    · have hl := val_lt (B := W32) (by decide) hf
      rw [Nat.div_eq_of_lt (Nat.lt_of_lt_of_le hl (Nat.pow_le_pow_right (by decide) (by omega))), List.drop_eq_nil_of_le (by omega)]
      unfold nth
      simp [List.getD, Nat.not_lt.1 hk, val]
  rw [h1, h2]
  have h3 : W32 = 2 ^ r * (2 * 2 ^ (31 - r)) := by
    rw [← Nat.pow_succ', ← Nat.pow_add, show r + (31 - r + 1) = 32 by omega]; rfl
  rw [h3, Nat.mul_assoc, Nat.add_mul_div_left _ _ (Nat.pow_pos (by decide)), Nat.mul_assoc, Nat.add_mul_mod_self_left]

/-- The lowest bit of x that is set stands at t. -/
def TwoAt (x t : Nat) : Prop := ∃ m, x = 2 ^ t * (2 * m + 1)
def IsTwos (x t : Nat) : Prop := (x = 0 ∧ t = 0) ∨ TwoAt x t
theorem TwoAt.le {x t u : Nat} (h : TwoAt x t) (k : TwoAt x u) : t ≤ u := by
  obtain ⟨m, hm⟩ := h
  obtain ⟨n, hn⟩ := k
  refine Nat.not_lt.1 fun hlt => ?_
  obtain ⟨d, rfl⟩ : ∃ d, t = u + (d + 1) := ⟨t - u - 1, by omega⟩
  rw [hn, Nat.pow_add, Nat.mul_assoc] at hm
  have := Nat.eq_of_mul_eq_mul_left (Nat.pow_pos (by decide)) hm
  rw [Nat.pow_succ', Nat.mul_assoc] at this
  omega
theorem TwoAt.pos {x t : Nat} (h : TwoAt x t) : x ≠ 0 := by
  obtain ⟨m, rfl⟩ := h
  exact Nat.ne_of_gt (Nat.mul_pos (Nat.pow_pos (by decide)) (by omega))
theorem IsTwos.inj {x t u : Nat} (h : IsTwos x t) (k : IsTwos x u) : t = u := by
  rcases h with ⟨h1, rfl⟩ | h <;> rcases k with ⟨k1, rfl⟩ | k
  · rfl
  · exact absurd h1 k.pos
  · exact absurd k1 h.pos
  · exact Nat.le_antisymm (h.le k) (k.le h)
theorem mod_succ (x t : Nat) (h : x % 2 ^ t = 0) (hb : nthB (bitsOf x) t = false) : x % 2 ^ (t + 1) = 0 := by
  rw [nthB_bits] at hb
  have h1 : x / 2 ^ t % 2 = 0 := by
    have := of_decide_eq_false (show decide (x / 2 ^ t % 2 = 1) = false by simpa using hb)
    omega
  rw [Nat.pow_succ, Nat.mod_mul, h, h1]; rfl
theorem twos_end {x t : Nat} (h : x % 2 ^ t = 0) (ht : t ≤ (bitsOf x).length) (hb : t < (bitsOf x).length → nthB (bitsOf x) t = true) : IsTwos x t := by
  by_cases hl : t < (bitsOf x).length
  · have h1 := hb hl
    rw [nthB_bits] at h1
    have h2 : x / 2 ^ t % 2 = 1 := by simpa using h1
    refine .inr ⟨x / 2 ^ t / 2, ?_⟩
    have h3 := Nat.div_add_mod x (2 ^ t)
    have h4 := Nat.div_add_mod (x / 2 ^ t) 2
    rw [h2] at h4
    rw [h4]
    omega
  · have h1 : x < 2 ^ t := (bitsOf_len x t).1 (by omega)
    rw [Nat.mod_eq_of_lt h1] at h
    refine .inl ⟨h, ?_⟩
    rw [h, bitsOf_zero] at ht
    exact Nat.le_zero.1 ht
/-- By limbs: the first that is not nought. -/
theorem twos_limb {xs : List Nat} (hf : Fit W32 xs) {k : Nat} (hk : k < xs.length) (hz : val W32 (xs.take k) = 0) (h0 : nth xs k ≠ 0) : IsTwos (nv xs) (32 * k + Lib.ctz 32 (nth xs k)) := by
  have hlt : nth xs k < W32 := by rw [nth_lt xs k hk]; exact hf _ (List.getElem_mem hk)
  obtain ⟨m, hm, hc⟩ := Lib.ctzFrom_spec 32 (nth xs k) (by omega) hlt
  have e : Lib.ctz 32 (nth xs k) = Lib.ctzFrom 32 (nth xs k) := by simp [Lib.ctz, h0]
  rw [e]
  refine .inr ⟨m + 2 ^ (31 - Lib.ctzFrom 32 (nth xs k)) * val W32 (xs.drop (k + 1)), ?_⟩
  unfold nv
  rw [val_take_drop W32 xs k (by omega), hz, Nat.zero_add, val_drop W32 xs k hk]
  generalize val W32 (xs.drop (k + 1)) = r
  have h3 : W32 = 2 ^ Lib.ctzFrom 32 (nth xs k) * (2 * 2 ^ (31 - Lib.ctzFrom 32 (nth xs k))) := by
    rw [← Nat.pow_succ', ← Nat.pow_add, show Lib.ctzFrom 32 (nth xs k) + (31 - Lib.ctzFrom 32 (nth xs k) + 1) = 32 by omega]; rfl
  rw [show W32 ^ k = 2 ^ (32 * k) from (Nat.pow_mul 2 32 k).symm]
  generalize Lib.ctzFrom 32 (nth xs k) = c at *
  rw [Nat.pow_add, Nat.mul_assoc]
  congr 1
  rw [hm]
  rw [h3]
  generalize 2 ^ c = p
  generalize 2 ^ (31 - c) = q
  grind
theorem twos_none {xs : List Nat} (hz : nv xs = 0) : IsTwos (nv xs) 0 := .inl ⟨hz, rfl⟩
end Go.Att
