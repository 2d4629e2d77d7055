/- Products and quotients digit by digit; plain. -/
import Derived.Test.YtblbpelaleaonaaNum5
namespace Go.Att

/-! products -/
theorem mul_step {o b : List Nat} {k j x c t V0 : Nat} (hk : k + j < o.length) (hinv : val W32 o + W32 ^ (k + j) * c = V0 + W32 ^ k * (x * val W32 (b.take j))) (ht : t = c + x * nth b j + nth o (k + j)) :
    val W32 (o.set (k + j) (t % W32)) + W32 ^ (k + (j + 1)) * (t / W32) = V0 + W32 ^ k * (x * val W32 (b.take (j + 1))) := by
  have h1 := val_set W32 o (k + j) (t % W32) hk
  have h2 := carry_step W32 (W32 ^ (k + j)) t
  have h3 : W32 ^ (k + j) * t = W32 ^ (k + j) * c + W32 ^ k * (x * (W32 ^ j * nth b j)) + W32 ^ (k + j) * nth o (k + j) := by
    rw [ht, Nat.mul_add, Nat.mul_add, Nat.pow_add]
    simp only [Nat.mul_assoc, Nat.mul_left_comm, Nat.mul_comm]
  rw [val_take_succ, Nat.mul_add x, Nat.mul_add, ← Nat.add_assoc k j 1, Nat.pow_succ]
  omega
theorem mul_carry {c x y z t : Nat} (hc : c ≤ 4294967295) (hx : x ≤ 4294967295) (hy : y ≤ 4294967295) (hz : z ≤ 4294967295) (ht : t = c + x * y + z) : t ≤ 18446744073709551615 ∧ t / W32 ≤ 4294967295 := by
  have h : x * y ≤ 4294967295 * 4294967295 := Nat.mul_le_mul hx hy
  unfold W32
  omega
theorem mul_row {o a b : List Nat} {k c : Nat} (hk : k + b.length < o.length) (h0 : nth o (k + b.length) = 0) (hinv : val W32 o + W32 ^ (k + b.length) * c = nv (a.take k) * nv b + W32 ^ k * (nth a k * val W32 (b.take b.length))) :
    nv (o.set (k + b.length) c) = nv (a.take (k + 1)) * nv b := by
  have h1 := val_set W32 o (k + b.length) c hk
  unfold nv at *
  rw [h0, Nat.mul_zero, Nat.add_zero] at h1
  rw [h1, hinv, val_take_ge _ _ _ (Nat.le_refl _), val_take_succ, Nat.add_mul, Nat.mul_assoc]
theorem digit_zero {o : List Nat} {k : Nat} (h : val W32 o < W32 ^ k) : nth o k = 0 := by
  have h1 := nth_le_val (B := W32) o k
  by_cases h0 : nth o k = 0
  · exact h0
  · exfalso
    have : W32 ^ k * 1 ≤ W32 ^ k * nth o k := Nat.mul_le_mul_left _ (by omega)
    omega
theorem mul_below {a b : List Nat} (ha : Fit W32 a) (hb : Fit W32 b) (k : Nat) (hk : k ≤ a.length) : nv (a.take k) * nv b < W32 ^ (k + b.length) := by
  have h1 := nv_lt (ha.take k)
  rw [List.length_take, Nat.min_eq_left hk] at h1
  have h2 := nv_lt hb
  rw [Nat.pow_add]
  exact Nat.mul_lt_mul'' h1 h2

/-! one limb below the bar -/
theorem drop_set (o : List Nat) (k d : Nat) (h : k < o.length) : (o.set k d).drop k = d :: o.drop (k + 1) := by
  rw [List.drop_eq_getElem_cons (by simpa using h), List.getElem_set_self, List.drop_set]
  simp
theorem divw_step {a q : List Nat} {j r w : Nat} (hj : j < a.length) (hq : q.length = a.length) (hinv : nv (a.drop (j + 1)) = w * nv (q.drop (j + 1)) + r) :
    nv (a.drop j) = w * nv ((q.set j ((r * 4294967296 + nth a j) / w)).drop j) + (r * 4294967296 + nth a j) % w := by
  unfold nv at *
  rw [val_drop _ _ _ hj, drop_set _ _ _ (by omega), hinv]
  simp only [val]
  have h := Nat.mod_add_div (r * 4294967296 + nth a j) w
  rw [Nat.mul_add w]
  have e : w * (W32 * val W32 (q.drop (j + 1))) = W32 * (w * val W32 (q.drop (j + 1))) := by rw [← Nat.mul_assoc, Nat.mul_comm w, Nat.mul_assoc]
  rw [Nat.mul_add W32, e]
  unfold W32 at *
  omega
theorem div_mod_of {x w q r : Nat} (h : x = w * q + r) (hr : r < w) : q = x / w ∧ r = x % w := by
  constructor
  · rw [h, Nat.mul_add_div (by omega), Nat.div_eq_of_lt hr]; simp
  · rw [h, Nat.mul_add_mod, Nat.mod_eq_of_lt hr]
theorem divw_small {r x w : Nat} (hr : r < w) (hx : x ≤ 4294967295) : (r * 4294967296 + x) / w ≤ 4294967295 := by
  have : (r * 4294967296 + x) / w < 4294967296 := by
    rw [Nat.div_lt_iff_lt_mul (by omega)]
    have : (r + 1) * 4294967296 ≤ w * 4294967296 := Nat.mul_le_mul_right _ hr
    rw [Nat.mul_comm 4294967296]
    omega
  omega

/-! many limbs: the guess of a digit -/
/-- what is known of the guess: never too small, and after the tests at most one too great -/
theorem guess_down {g rest v1 v2 V' top u3 X' P : Nat} (hX' : X' < P) (htop : g * v1 + rest = top) (hgt : rest * W32 + u3 < g * v2) :
    (top * W32 + u3) * P + X' < g * ((v1 * W32 + v2) * P + V') := by
  have h1 : top * W32 + u3 + 1 ≤ g * (v1 * W32 + v2) := by
    rw [← htop, Nat.add_mul, Nat.mul_add, Nat.mul_assoc]
    omega
  have h2 : (top * W32 + u3 + 1) * P ≤ g * (v1 * W32 + v2) * P := Nat.mul_le_mul_right _ h1
  rw [Nat.mul_add g, ← Nat.mul_assoc g]
  rw [Nat.add_mul, Nat.one_mul] at h2
  omega
theorem guess_up {g rest v1 v2 V' top u3 X' P : Nat} (hV' : V' < P) (hg : g ≤ W32) (hv1 : 1 ≤ v1) (htop : g * v1 + rest = top) (hle : g * v2 ≤ rest * W32 + u3) :
    g * ((v1 * W32 + v2) * P + V') < (top * W32 + u3) * P + X' + ((v1 * W32 + v2) * P + V') := by
  have h1 : g * (v1 * W32 + v2) ≤ top * W32 + u3 := by
    rw [← htop, Nat.add_mul, Nat.mul_add, Nat.mul_assoc]
    omega
  have h2 : g * (v1 * W32 + v2) * P ≤ (top * W32 + u3) * P := Nat.mul_le_mul_right _ h1
  have h3 : g * V' ≤ W32 * V' := Nat.mul_le_mul_right _ hg
  have h4 : W32 * V' < W32 * P := Nat.mul_lt_mul_of_pos_left hV' (by decide)
  have h5 : W32 * P ≤ v1 * W32 * P := by have h := Nat.mul_le_mul_right P (Nat.mul_le_mul_right W32 hv1); rwa [Nat.one_mul] at h
  rw [Nat.mul_add g, ← Nat.mul_assoc g]
  rw [Nat.add_mul (v1 * W32) v2 P]
  omega

/-- take: one limb -/
theorem take_owed {g w c p : Nat} (hw : w ≤ 4294967295) (hc : c ≤ g) (hp : p = g * w + c) : p / W32 ≤ g ∧ (p / W32 = g → p % W32 = 0) := by
  have h1 : g * w ≤ g * 4294967295 := Nat.mul_le_mul_left _ hw
  unfold W32
  have h2 : p ≤ g * 4294967296 := by omega
  constructor
  · omega
  · intro h; omega
theorem take_step {o o' v : List Nat} {j k g c c' d : Nat} (hk : j + k < o'.length) (hinv : val W32 ((o.drop j).take k) + W32 ^ k * c = val W32 ((o'.drop j).take k) + g * val W32 (v.take k)) (hd : nth o (j + k) + W32 * c' = d + (g * nth v k + c)) :
    val W32 ((o.drop j).take (k + 1)) + W32 ^ (k + 1) * c' = val W32 (((o'.set (j + k) d).drop j).take (k + 1)) + g * val W32 (v.take (k + 1)) := by
  have e : (o'.set (j + k) d).drop j = (o'.drop j).set k d := by rw [List.drop_set, if_neg (by omega), Nat.add_sub_cancel_left]
  rw [e, val_take_set _ _ _ _ (by simp; omega), val_take_succ, val_take_succ, nth_drop, Nat.mul_add g, Nat.pow_succ, Nat.mul_assoc]
  have h := congrArg (fun t => W32 ^ k * t) hd
  simp only [Nat.mul_add] at h
  have e2 : g * (W32 ^ k * nth v k) = W32 ^ k * (g * nth v k) := Nat.mul_left_comm _ _ _
  omega
theorem give_step {o o' v : List Nat} {j k c c' d : Nat} (hk : j + k < o'.length) (hinv : val W32 ((o.drop j).take k) + val W32 (v.take k) = val W32 ((o'.drop j).take k) + W32 ^ k * c) (hd : nth o (j + k) + nth v k + c = d + W32 * c') :
    val W32 ((o.drop j).take (k + 1)) + val W32 (v.take (k + 1)) = val W32 (((o'.set (j + k) d).drop j).take (k + 1)) + W32 ^ (k + 1) * c' := by
  have e : (o'.set (j + k) d).drop j = (o'.drop j).set k d := by rw [List.drop_set, if_neg (by omega), Nat.add_sub_cancel_left]
  rw [e, val_take_set _ _ _ _ (by simp; omega), val_take_succ, val_take_succ, nth_drop, Nat.pow_succ, Nat.mul_assoc]
  have h := congrArg (fun t => W32 ^ k * t) hd
  simp only [Nat.mul_add] at h
  omega
end Go.Att
