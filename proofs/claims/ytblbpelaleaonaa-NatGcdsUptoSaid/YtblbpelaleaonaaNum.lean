/- Numbers as lists of digits; plain, no program in sight. -/
import Derived.Test.YtblbpelaleaonaaLib
namespace Go.Att

def val (B : Nat) : List Nat → Nat
  | [] => 0
  | d :: ds => d + B * val B ds

def digsF (B : Nat) : Nat → Nat → List Nat
  | 0, _ => []
  | f + 1, n => if n = 0 then [] else n % B :: digsF B f (n / B)
@[irreducible] def digs (B n : Nat) : List Nat := digsF B n n

theorem val_app (B : Nat) (xs ys : List Nat) : val B (xs ++ ys) = val B xs + B ^ xs.length * val B ys := by
  induction xs with
  | nil => simp [val]
  | cons d ds ih =>
    simp only [List.cons_append, val, ih, List.length_cons, Nat.pow_succ]
    rw [Nat.mul_add, Nat.add_assoc]
    congr 2
    rw [← Nat.mul_assoc, Nat.mul_comm B]
theorem val_one (B d : Nat) : val B [d] = d := by simp [val]
theorem val_snoc (B : Nat) (xs : List Nat) (d : Nat) : val B (xs ++ [d]) = val B xs + B ^ xs.length * d := by rw [val_app, val_one]
theorem val_lt {B : Nat} (_hB : 0 < B) {xs : List Nat} (h : Fit B xs) : val B xs < B ^ xs.length := by
  induction xs with
  | nil => simp [val]
  | cons d ds ih =>
    have h1 : d < B := h d (by simp)
    have h2 := ih (fun x hx => h x (by simp [hx]))
    simp only [val, List.length_cons, Nat.pow_succ]
    calc d + B * val B ds < B + B * val B ds := by omega
      _ = B * (val B ds + 1) := by rw [Nat.mul_add]; omega
      _ ≤ B * B ^ ds.length := Nat.mul_le_mul_left _ h2
      _ = B ^ ds.length * B := Nat.mul_comm _ _
theorem val_take_drop (B : Nat) (xs : List Nat) (k : Nat) (h : k ≤ xs.length) : val B xs = val B (xs.take k) + B ^ k * val B (xs.drop k) := by
  conv => lhs; rw [← List.take_append_drop k xs, val_app]
  rw [List.length_take, Nat.min_eq_left h]
theorem take_succ_nth (xs : List Nat) (k : Nat) (h : k < xs.length) : xs.take (k + 1) = xs.take k ++ [nth xs k] := by
  rw [nth_lt xs k h, List.take_succ_eq_append_getElem h]
theorem val_take_succ (B : Nat) (xs : List Nat) (k : Nat) : val B (xs.take (k + 1)) = val B (xs.take k) + B ^ k * nth xs k := by
  by_cases h : k < xs.length
  · rw [take_succ_nth xs k h, val_snoc, List.length_take, Nat.min_eq_left (by omega)]
  · rw [nth_ge xs k (by omega), List.take_of_length_le (by omega), List.take_of_length_le (by omega)]; simp
theorem val_take_ge (B : Nat) (xs : List Nat) (k : Nat) (h : xs.length ≤ k) : val B (xs.take k) = val B xs := by rw [List.take_of_length_le h]
theorem drop_nth (xs : List Nat) (k : Nat) (h : k < xs.length) : xs.drop k = nth xs k :: xs.drop (k + 1) := by
  rw [nth_lt xs k h, List.drop_eq_getElem_cons h]
theorem val_drop (B : Nat) (xs : List Nat) (k : Nat) (h : k < xs.length) : val B (xs.drop k) = nth xs k + B * val B (xs.drop (k + 1)) := by
  rw [drop_nth xs k h]; rfl
theorem val_zeros (B : Nat) {xs : List Nat} (h : ∀ x ∈ xs, x = 0) : val B xs = 0 := by
  induction xs with
  | nil => rfl
  | cons d ds ih =>
    simp only [val]
    rw [h d (by simp), ih (fun x hx => h x (by simp [hx]))]
    simp
theorem nth_drop (xs : List Nat) (k i : Nat) : nth (xs.drop k) i = nth xs (k + i) := by
  unfold nth; simp [List.getD]
theorem nth_take (xs : List Nat) (k i : Nat) (h : i < k) : nth (xs.take k) i = nth xs i := by
  unfold nth; simp [List.getD, List.getElem?_take_of_lt h]
theorem nth_app_left (xs ys : List Nat) (i : Nat) (h : i < xs.length) : nth (xs ++ ys) i = nth xs i := by
  unfold nth; simp [List.getD, List.getElem?_append_left h]
theorem nth_app_right (xs ys : List Nat) (i : Nat) (h : xs.length ≤ i) : nth (xs ++ ys) i = nth ys (i - xs.length) := by
  unfold nth; simp [List.getD, List.getElem?_append_right h]
theorem val_take_zeros (B : Nat) (xs : List Nat) (n : Nat) (hn : n ≤ xs.length) (h : ∀ i, n ≤ i → i < xs.length → nth xs i = 0) : val B (xs.take n) = val B xs := by
  rw [val_take_drop B xs n hn, val_zeros B (xs := xs.drop n) ?_]
  · simp
  · intro x hx
    obtain ⟨i, hi, rfl⟩ := List.getElem_of_mem hx
    rw [List.length_drop] at hi
    rw [← nth_lt _ i (by rw [List.length_drop]; exact hi), nth_drop]
    exact h _ (by omega) (by omega)

theorem digsF_more (B : Nat) (hB : 2 ≤ B) : ∀ (f n : Nat), n ≤ f → digsF B f n = digsF B n n := by
  intro f
  induction f using Nat.strongRecOn with
  | ind f ih =>
    intro n hn
    cases f with
    | zero => obtain rfl : n = 0 := by omega
              rfl
    | succ f =>
      cases n with
      | zero => simp [digsF]
      | succ n =>
        have hlt : (n + 1) / B < n + 1 := Nat.div_lt_self (by omega) (by omega)
        simp only [digsF]
        simp only [Nat.succ_ne_zero, if_false]
        congr 1
        rw [ih f (by omega) _ (by omega), ih n (by omega) _ (by omega)]
theorem digs_zero (B : Nat) : digs B 0 = [] := by unfold digs; rfl
theorem digs_pos (B : Nat) (hB : 2 ≤ B) (n : Nat) (h : n ≠ 0) : digs B n = n % B :: digs B (n / B) := by
  unfold digs
  cases n with
  | zero => omega
  | succ n =>
    have hlt : (n + 1) / B < n + 1 := Nat.div_lt_self (by omega) (by omega)
    conv => lhs; rw [digsF]
    rw [if_neg h, digsF_more B hB n _ (by omega)]
theorem val_digs (B : Nat) (hB : 2 ≤ B) (n : Nat) : val B (digs B n) = n := by
  induction n using Nat.strongRecOn with
  | ind n ih =>
    by_cases h : n = 0
    · subst h; rw [digs_zero]; rfl
    · rw [digs_pos B hB n h, val, ih _ (Nat.div_lt_self (by omega) (by omega))]
      exact Nat.mod_add_div n B
theorem fit_digs (B : Nat) (hB : 2 ≤ B) (n : Nat) : Fit B (digs B n) := by
  induction n using Nat.strongRecOn with
  | ind n ih =>
    by_cases h : n = 0
    · subst h; rw [digs_zero]; exact Fit.nil _
    · rw [digs_pos B hB n h]
      intro x hx
      rcases List.mem_cons.1 hx with rfl | hx
      · exact Nat.mod_lt _ (by omega)
      · exact ih _ (Nat.div_lt_self (by omega) (by omega)) x hx
theorem digs_canon {B : Nat} (hB : 2 ≤ B) : ∀ {xs : List Nat}, Fit B xs → (xs.length = 0 ∨ nth xs (xs.length - 1) ≠ 0) → xs = digs B (val B xs) := by
  intro xs
  induction xs with
  | nil => intro _ _; rw [val, digs_zero]
  | cons d ds ih =>
    intro hf hl
    have hd : d < B := hf d (by simp)
    have hds : Fit B ds := fun x hx => hf x (by simp [hx])
    have hl' : ds.length = 0 ∨ nth ds (ds.length - 1) ≠ 0 := by
      rcases hl with hl | hl
      · simp at hl
      · by_cases h0 : ds.length = 0
        · exact .inl h0
        · refine .inr ?_
          rw [List.length_cons] at hl
          have e : d :: ds = [d] ++ ds := rfl
          rw [e, nth_app_right _ _ _ (by simp; omega)] at hl
          simpa using hl
    have hne : val B (d :: ds) ≠ 0 := by
      intro h0
      simp only [val] at h0
      have hd0 : d = 0 := by omega
      have hv0 : B * val B ds = 0 := by omega
      have hv : val B ds = 0 := by
        rcases Nat.mul_eq_zero.1 hv0 with h | h
        · omega
        · exact h
      have hds0 := ih hds hl'
      rw [hv, digs_zero] at hds0
      subst hds0
      subst hd0
      rcases hl with hl | hl
      · simp at hl
      · simp [nth] at hl
    rw [digs_pos B hB _ hne]
    simp only [val]
    have e1 : (d + B * val B ds) % B = d := by rw [Nat.add_mul_mod_self_left]; exact Nat.mod_eq_of_lt hd
    have e2 : (d + B * val B ds) / B = val B ds := by
      rw [Nat.add_mul_div_left _ _ (by omega), Nat.div_eq_of_lt hd]; simp
    rw [e1, e2, ← ih hds hl']
theorem digs_last (B : Nat) (hB : 2 ≤ B) (n : Nat) : (digs B n).length = 0 ∨ nth (digs B n) ((digs B n).length - 1) ≠ 0 := by
  induction n using Nat.strongRecOn with
  | ind n ih =>
    by_cases h : n = 0
    · subst h; rw [digs_zero]; exact .inl rfl
    · refine .inr ?_
      rw [digs_pos B hB n h]
      have ih' := ih _ (Nat.div_lt_self (show 0 < n by omega) (show 1 < B by omega))
      rw [List.length_cons]
      have e : n % B :: digs B (n / B) = [n % B] ++ digs B (n / B) := rfl
      by_cases h0 : (digs B (n / B)).length = 0
      · have h1 : digs B (n / B) = [] := List.eq_nil_of_length_eq_zero h0
        have h2 : n / B = 0 := by rw [← val_digs B hB (n / B), h1]; rfl
        rw [h1]
        have h3 := Nat.mod_add_div n B
        rw [h2] at h3
        simp [nth]
        omega
      · rw [e, nth_app_right _ _ _ (by simp; omega)]
        rcases ih' with ih' | ih'
        · omega
        · simpa using ih'
theorem digs_nil (B : Nat) (hB : 2 ≤ B) (n : Nat) : (digs B n).length = 0 ↔ n = 0 := by
  constructor
  · intro h; rw [← val_digs B hB n, List.eq_nil_of_length_eq_zero h]; rfl
  · intro h; subst h; rw [digs_zero]; rfl
theorem digs_inj (B : Nat) (hB : 2 ≤ B) {m n : Nat} (h : digs B m = digs B n) : m = n := by
  rw [← val_digs B hB m, h, val_digs B hB]
/-- how many digits: at most k, just if below B^k -/
theorem digs_len (B : Nat) (hB : 2 ≤ B) (n k : Nat) : (digs B n).length ≤ k ↔ n < B ^ k := by
  constructor
  · intro h
    have := val_lt (show 0 < B by omega) (fit_digs B hB n)
    rw [val_digs B hB] at this
    exact Nat.lt_of_lt_of_le this (Nat.pow_le_pow_right (by omega) h)
  · intro h
    rcases digs_last B hB n with h0 | h0
    · omega
    · by_cases hk : (digs B n).length ≤ k
      · exact hk
      · exfalso
        have hl : (digs B n).length - 1 < (digs B n).length := by omega
        have h1 := val_take_drop B (digs B n) ((digs B n).length - 1) (by omega)
        rw [val_digs B hB, drop_nth _ _ hl, val] at h1
        have h2 : B ^ k ≤ B ^ ((digs B n).length - 1) := Nat.pow_le_pow_right (by omega) (by omega)
        have h3 : B ^ ((digs B n).length - 1) * 1 ≤ B ^ ((digs B n).length - 1) * (nth (digs B n) ((digs B n).length - 1) + B * val B (List.drop ((digs B n).length - 1 + 1) (digs B n))) := Nat.mul_le_mul_left _ (by omega)
        omega
/-- the strip of noughts -/
theorem take_digs {B : Nat} (hB : 2 ≤ B) {xs : List Nat} (hf : Fit B xs) {n : Nat} (hn : n ≤ xs.length) (hz : ∀ i, n ≤ i → i < xs.length → nth xs i = 0) (hl : n = 0 ∨ nth xs (n - 1) ≠ 0) : xs.take n = digs B (val B xs) := by
  rw [← val_take_zeros B xs n hn hz]
  refine digs_canon hB (hf.take n) ?_
  rw [List.length_take, Nat.min_eq_left hn]
  rcases hl with hl | hl
  · exact .inl hl
  · by_cases h0 : n = 0
    · exact .inl h0
    · exact .inr (by rw [nth_take _ _ _ (by omega)]; exact hl)

/-! order -/
theorem val_lt_of {B : Nat} (hB : 0 < B) {a b : List Nat} (ha : Fit B a) (hl : a.length = b.length) (i : Nat) (hi : i < a.length) (heq : ∀ j, i < j → j < a.length → nth a j = nth b j) (hlt : nth a i < nth b i) : val B a < val B b := by
  have h1 := val_take_drop B a (i + 1) (by omega)
  have h2 := val_take_drop B b (i + 1) (by omega)
  have hd : a.drop (i + 1) = b.drop (i + 1) := by
    apply List.ext_getElem (by simp; omega)
    intro j h3 h4
    rw [List.length_drop] at h3 h4
    rw [← nth_lt _ _ (by rw [List.length_drop]; exact h3), ← nth_lt _ _ (by rw [List.length_drop]; exact h4), nth_drop, nth_drop]
    exact heq _ (by omega) (by omega)
  rw [val_take_succ] at h1 h2
  rw [hd] at h1
  have h3 : val B (a.take i) < B ^ i := by
    have := val_lt hB (ha.take i)
    rwa [List.length_take, Nat.min_eq_left (by omega)] at this
  have h4 : B ^ i * (nth a i + 1) ≤ B ^ i * nth b i := Nat.mul_le_mul_left _ hlt
  rw [Nat.mul_add] at h4
  omega
theorem val_eq_of {B : Nat} {a b : List Nat} (hl : a.length = b.length) (heq : ∀ j, j < a.length → nth a j = nth b j) : val B a = val B b := by
  congr 1
  apply List.ext_getElem hl
  intro j h1 h2
  rw [← nth_lt a j h1, ← nth_lt b j h2]
  exact heq j h1
theorem digs_lt_of_len {B : Nat} (hB : 2 ≤ B) {m n : Nat} (h : (digs B m).length < (digs B n).length) : m < n := by
  have h1 : m < B ^ (digs B m).length := (digs_len B hB m _).1 (Nat.le_refl _)
  have h2 : ¬ n < B ^ (digs B m).length := fun h2 => by have := (digs_len B hB n _).2 h2; omega
  omega

/-! bits -/
def bn (bs : List Bool) : List Nat := bs.map Bool.toNat
def bval (bs : List Bool) : Nat := val 2 (bn bs)
@[irreducible] def bitsOf (n : Nat) : List Bool := (digs 2 n).map (· == 1)
theorem len_bn (bs : List Bool) : (bn bs).length = bs.length := by simp [bn]
theorem fit_bn (bs : List Bool) : Fit 2 (bn bs) := by
  intro x hx
  obtain ⟨b, _, rfl⟩ := List.mem_map.1 hx
  cases b <;> decide
theorem nth_bn (bs : List Bool) (i : Nat) : nth (bn bs) i = (nthB bs i).toNat := by
  by_cases h : i < bs.length
  · rw [nth_lt _ _ (by rw [len_bn]; exact h), nthB_lt _ _ h]; simp [bn]
  · rw [nth_ge _ _ (by rw [len_bn]; omega), nthB_ge _ _ (by omega)]; rfl
theorem bn_inj {a b : List Bool} (h : bn a = bn b) : a = b := by
  have := congrArg (List.map (· == 1)) h
  have e : ∀ b : Bool, (b.toNat == 1) = b := by decide
  simpa [bn, Function.comp_def, e] using this
theorem bn_bitsOf (n : Nat) : bn (bitsOf n) = digs 2 n := by
  unfold bitsOf bn
  rw [List.map_map]
  conv => rhs; rw [← List.map_id (digs 2 n)]
  apply List.map_congr_left
  intro x hx
  have := fit_digs 2 (by omega) n x hx
  match x, this with
  | 0, _ => rfl
  | 1, _ => rfl
theorem bval_bitsOf (n : Nat) : bval (bitsOf n) = n := by unfold bval; rw [bn_bitsOf, val_digs 2 (by omega)]
theorem len_bitsOf (n : Nat) : (bitsOf n).length = (digs 2 n).length := by rw [← bn_bitsOf, len_bn]
theorem bitsOf_of_bn {bs : List Bool} {n : Nat} (h : bn bs = digs 2 n) : bs = bitsOf n := bn_inj (h.trans (bn_bitsOf n).symm)
theorem bn_app (a b : List Bool) : bn (a ++ b) = bn a ++ bn b := by simp [bn]
theorem bn_take (a : List Bool) (n : Nat) : bn (a.take n) = (bn a).take n := by simp [bn, List.map_take]
theorem bn_drop (a : List Bool) (n : Nat) : bn (a.drop n) = (bn a).drop n := by simp [bn, List.map_drop]
theorem bval_lt (bs : List Bool) : bval bs < 2 ^ bs.length := by have := val_lt (by omega) (fit_bn bs); rwa [len_bn] at this

/-! limbs -/
def W32 : Nat := 4294967296
theorem W32_ge : 2 ≤ W32 := by decide
theorem W32_eq : W32 = 4294967296 := rfl
abbrev limbs (n : Nat) : List Nat := digs W32 n
abbrev nv (xs : List Nat) : Nat := val W32 xs
theorem nv_limbs (n : Nat) : nv (limbs n) = n := val_digs W32 W32_ge n
/-- A list of limbs, read. -/
def RdL (w : World) (v : Value) (xs : List Nat) : Prop := RdI .u32 w v xs ∧ Fit W32 xs
/-- A list of limbs, owned. -/
def OwnL (e : TypeId) (B : Nat) (w : World) (v : Value) (xs : List Nat) : Prop := OwnI .u32 e B w v xs ∧ Fit W32 xs
theorem OwnL.rd {e : TypeId} {B : Nat} {w : World} {v : Value} {xs : List Nat} (h : OwnL e B w v xs) : RdL w v xs := ⟨h.1.rd, h.2⟩
theorem RdL.ext {w w' : World} {v : Value} {xs : List Nat} (h : RdL w v xs) (e : Ext w w') : RdL w' v xs := ⟨h.1.ext e, h.2⟩
theorem OwnL.ext {e : TypeId} {B : Nat} {w w' : World} {v : Value} {xs : List Nat} (h : OwnL e B w v xs) (x : Ext w w') : OwnL e B w' v xs := ⟨h.1.ext x, h.2⟩
theorem OwnL.mono {e : TypeId} {B B' : Nat} {w : World} {v : Value} {xs : List Nat} (h : OwnL e B w v xs) (hB : B' ≤ B) : OwnL e B' w v xs := ⟨h.1.mono hB, h.2⟩
theorem Fit.nth32 {xs : List Nat} (h : Fit W32 xs) (i : Nat) : Att.nth xs i ≤ 4294967295 := by
  have := h.nth (by decide) i
  unfold W32 at this
  omega

end Go.Att
