/- Long division: one digit; plain. -/
import Derived.Test.YtblbpelaleaonaaNumN
namespace Go.Att

theorem val_drop_any (B : Nat) (xs : List Nat) (k : Nat) : val B (xs.drop k) = nth xs k + B * val B (xs.drop (k + 1)) := by
  by_cases h : k < xs.length
  · exact val_drop B xs k h
  · rw [List.drop_of_length_le (by omega), List.drop_of_length_le (by omega), nth_ge xs k (by omega)]; simp [val]
theorem val_split (B : Nat) (xs : List Nat) (k : Nat) : val B xs = val B (xs.take k) + B ^ k * val B (xs.drop k) := by
  by_cases h : k ≤ xs.length
  · exact val_take_drop B xs k h
  · rw [List.take_of_length_le (by omega), List.drop_of_length_le (by omega)]; simp [val]
theorem val_take_lt {xs : List Nat} (h : Fit W32 xs) (k : Nat) : val W32 (xs.take k) < W32 ^ k := by
  have h1 := val_lt (show 0 < W32 by decide) (h.take k)
  exact Nat.lt_of_lt_of_le h1 (Nat.pow_le_pow_right (by decide) (by rw [List.length_take]; omega))
/-- the three highest limbs of what stands from j on -/
theorem seg3 (u : List Nat) (j p : Nat) (hz : val W32 (u.drop (j + p + 3)) = 0) :
    val W32 (u.drop j) = ((nth u (j + p + 2) * W32 + nth u (j + p + 1)) * W32 + nth u (j + p)) * W32 ^ p + val W32 ((u.drop j).take p) := by
  rw [val_split W32 (u.drop j) p, List.drop_drop, val_drop_any, val_drop_any, val_drop_any, hz, Nat.mul_zero, Nat.add_zero, Nat.add_comm, Nat.mul_comm]
  congr 2
  rw [Nat.mul_comm _ W32, Nat.mul_comm _ W32, Nat.add_comm, Nat.add_comm (nth u (j + p + 1))]
  rfl
theorem top2 (v : List Nat) (p : Nat) (hl : v.length = p + 2) : val W32 v = (nth v (p + 1) * W32 + nth v p) * W32 ^ p + val W32 (v.take p) := by
  rw [val_split W32 v p, val_drop_any, val_drop_any, List.drop_of_length_le (by omega), Nat.add_comm, Nat.mul_comm]
  simp only [val, Nat.mul_zero, Nat.add_zero]
  congr 2
  rw [Nat.mul_comm W32, Nat.add_comm]

/-- what is divided, and by what, to the three and the two highest limbs -/
structure Digit (X V top u3 v1 v2 P X' V' : Nat) : Prop where
  x : X = (top * W32 + u3) * P + X'
  v : V = (v1 * W32 + v2) * P + V'
  xl : X' < P
  vl : V' < P
  lt : X < W32 * V
  lo : 2147483648 ≤ v1
  hi : v1 ≤ 4294967295
  h2 : v2 ≤ 4294967295
  h3 : u3 ≤ 4294967295
theorem Digit.top_le {X V top u3 v1 v2 P X' V' : Nat} (d : Digit X V top u3 v1 v2 P X' V') : top ≤ W32 * v1 + 4294967295 := by
  have h1 : top * W32 * P ≤ X := by
    rw [d.x, Nat.add_mul]; omega
  have h2 : V < (v1 + 1) * W32 * P := by
    have h3 : (v1 * W32 + v2 + 1) * P ≤ (v1 + 1) * W32 * P := Nat.mul_le_mul_right _ (by have := d.h2; unfold W32; omega)
    have h4 := d.vl
    rw [d.v]
    rw [Nat.add_mul _ 1] at h3
    omega
  have h3 : top * W32 * P < W32 * ((v1 + 1) * W32 * P) := Nat.lt_of_le_of_lt h1 (Nat.lt_of_lt_of_le d.lt (Nat.mul_le_mul_left _ (Nat.le_of_lt h2)))
  have h4 : W32 * ((v1 + 1) * W32 * P) = W32 * (v1 + 1) * W32 * P := by simp only [Nat.mul_assoc]
  rw [h4] at h3
  have h5 := Nat.lt_of_mul_lt_mul_right h3
  have h6 := Nat.lt_of_mul_lt_mul_right h5
  unfold W32 at *
  omega
theorem Digit.first {X V top u3 v1 v2 P X' V' : Nat} (d : Digit X V top u3 v1 v2 P X' V') : X < (top / v1 + 1) * V := by
  have h0 : top + 1 ≤ (top / v1 + 1) * v1 := by
    have h := Nat.mod_add_div top v1
    have h2 := Nat.mod_lt top (show 0 < v1 by have := d.lo; omega)
    rw [Nat.add_mul, Nat.mul_comm (top / v1), Nat.one_mul]
    omega
  have h1 : X < (top + 1) * W32 * P := by
    have h3 : (top * W32 + u3 + 1) * P ≤ (top + 1) * W32 * P := Nat.mul_le_mul_right _ (by have := d.h3; unfold W32; omega)
    have h4 := d.xl
    rw [d.x]
    rw [Nat.add_mul _ 1] at h3
    omega
  have h2 : (top + 1) * W32 * P ≤ (top / v1 + 1) * v1 * W32 * P := Nat.mul_le_mul_right _ (Nat.mul_le_mul_right _ h0)
  have h3 : (top / v1 + 1) * v1 * W32 * P ≤ (top / v1 + 1) * V := by
    rw [d.v, Nat.mul_assoc, Nat.mul_assoc]
    apply Nat.mul_le_mul_left
    rw [Nat.add_mul, Nat.mul_assoc]
    omega
  omega
theorem Digit.down {X V top u3 v1 v2 P X' V' g rest : Nat} (d : Digit X V top u3 v1 v2 P X' V') (ht : g * v1 + rest = top) (h : W32 ≤ g ∨ rest * W32 + u3 < g * v2) : X < g * V := by
  rcases h with h | h
  · exact Nat.lt_of_lt_of_le d.lt (Nat.mul_le_mul_right _ h)
  · rw [d.x, d.v]
    exact guess_down d.xl ht h
theorem Digit.up {X V top u3 v1 v2 P X' V' g rest : Nat} (d : Digit X V top u3 v1 v2 P X' V') (ht : g * v1 + rest = top) (hg : g ≤ W32) (h : g * v2 ≤ rest * W32 + u3) : g * V < X + V := by
  have := guess_up (X' := X') d.vl hg (by have := d.lo; omega) ht h
  rw [← d.v, ← d.x] at this
  exact this
/-- a rest that has grown too great means that the guess is one digit -/
theorem Digit.late {X V top u3 v1 v2 P X' V' g rest : Nat} (d : Digit X V top u3 v1 v2 P X' V') (ht : g * v1 + rest = top) (h : W32 ≤ rest) : g ≤ 4294967295 ∧ g * v2 ≤ rest * W32 + u3 := by
  have h1 := d.top_le
  have hg : g ≤ 4294967295 := by
    by_cases hh : g ≤ 4294967295
    · exact hh
    · exfalso
      have : W32 * v1 ≤ g * v1 := Nat.mul_le_mul_right _ (by unfold W32; omega)
      unfold W32 at *
      omega
  refine ⟨hg, ?_⟩
  have h2 : g * v2 ≤ 4294967295 * 4294967295 := Nat.mul_le_mul hg d.h2
  have h3 : W32 * W32 ≤ rest * W32 := Nat.mul_le_mul_right _ h
  unfold W32 at *
  omega
theorem first_le {top v1 : Nat} (h1 : 2147483648 ≤ v1) (h2 : top ≤ W32 * v1 + 4294967295) : top / v1 ≤ 4294967297 := by
  have : top / v1 < 4294967298 := by
    rw [Nat.div_lt_iff_lt_mul (by omega)]
    unfold W32 at h2
    omega
  omega
theorem step_v1 {g v1 rest top : Nat} (hg : 1 ≤ g) (ht : g * v1 + rest = top) : (g - 1) * v1 + (rest + v1) = top := by
  have : (g - 1) * v1 + v1 = g * v1 := by
    rw [← Nat.succ_mul]; congr 1; omega
  omega

/-- the digit is taken off: the guess was right, or one too great -/
theorem off0 {X V S g M : Nat} (hs : X + M * 0 = S + g * V) (hlt : X < (g + 1) * V) : X = g * V + S ∧ S < V := by
  rw [Nat.add_mul] at hlt
  omega
theorem off1 {X V S T g M b2 : Nat} (hs : X + M * 1 = S + g * V) (hg : S + V = T + M * b2) (hb : b2 ≤ 1) (hS : S < M) (hT : T < M) (hup : g * V < X + V) : X = (g - 1) * V + T ∧ T < V ∧ 1 ≤ g := by
  have hb1 : b2 = 1 := by
    by_cases h : b2 = 0
    · subst h; omega
    · omega
  subst hb1
  have hg1 : 1 ≤ g := by
    by_cases h : g = 0
    · subst h; omega
    · omega
  have e : (g - 1) * V + V = g * V := by rw [← Nat.succ_mul]; congr 1; omega
  omega
theorem long_step {u u' q : List Nat} {j d V S VA : Nat} (hj : j < q.length) (hinv : VA = V * (W32 ^ (j + 1) * val W32 (q.drop (j + 1))) + val W32 u) (hX : val W32 (u.drop j) = d * V + S) (ht : u'.take j = u.take j) (hS : val W32 (u'.drop j) = S) :
    VA = V * (W32 ^ j * val W32 ((q.set j d).drop j)) + val W32 u' := by
  rw [hinv, drop_set q j d hj, val_split W32 u j, val_split W32 u' j, ht, hX, hS, val, Nat.pow_succ]
  simp only [Nat.mul_add, Nat.mul_assoc]
  rw [show V * (W32 ^ j * d) = W32 ^ j * (d * V) by simp only [Nat.mul_assoc, Nat.mul_comm, Nat.mul_left_comm]]
  omega
end Go.Att
