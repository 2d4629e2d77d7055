/- Order and length in bits of numbers; plain. -/
import Derived.Test.YtblbpelaleaonaaNum
import Derived.Lib.BitFns
namespace Go.Att

/-- length in bits -/
@[irreducible] def blen (n : Nat) : Nat := (digs 2 n).length
theorem blen_le (n k : Nat) : blen n ≤ k ↔ n < 2 ^ k := by unfold blen; exact digs_len 2 (by omega) n k
theorem eq_of_le {a b : Nat} (h : ∀ k, a ≤ k ↔ b ≤ k) : a = b := by
  have h1 := (h b).2 (Nat.le_refl _)
  have h2 := (h a).1 (Nat.le_refl _)
  omega
theorem blen_zero : blen 0 = 0 := by unfold blen; rw [digs_zero]; rfl
theorem blen_pos {n : Nat} (h : n ≠ 0) : 0 < blen n := by
  have := (blen_le n 0)
  omega
theorem blen_high (lo hi m : Nat) (hlo : lo < 2 ^ m) (hhi : hi ≠ 0) : blen (lo + 2 ^ m * hi) = m + blen hi := by
  apply eq_of_le
  intro k
  rw [blen_le]
  by_cases hk : k < m
  · have h1 : 2 ^ k ≤ 2 ^ m := Nat.pow_le_pow_right (by omega) (by omega)
    have h2 : 2 ^ m * 1 ≤ 2 ^ m * hi := Nat.mul_le_mul_left _ (by omega)
    constructor
    · intro h; omega
    · intro h; omega
  · obtain ⟨j, rfl⟩ : ∃ j, k = m + j := ⟨k - m, by omega⟩
    have e : m + blen hi ≤ m + j ↔ blen hi ≤ j := by omega
    rw [e, blen_le, Nat.pow_add]
    constructor
    · intro h
      by_cases hh : hi < 2 ^ j
      · exact hh
      · have h2 : 2 ^ m * 2 ^ j ≤ 2 ^ m * hi := Nat.mul_le_mul_left _ (by omega)
        omega
    · intro h
      have h2 : 2 ^ m * (hi + 1) ≤ 2 ^ m * 2 ^ j := Nat.mul_le_mul_left _ h
      rw [Nat.mul_add] at h2
      omega
theorem blen_bitLen (n : Nat) (h : n < 2 ^ 64) : Lib.bitLen n = blen n := by
  have key : ∀ f n, n < 2 ^ f → Lib.bitLenAux f n = blen n := by
    intro f
    induction f with
    | zero => intro n h; obtain rfl : n = 0 := by omega
              rw [blen_zero]; rfl
    | succ f ih =>
      intro n h
      by_cases h0 : n = 0
      · subst h0; rw [blen_zero]; simp [Lib.bitLenAux]
      · simp only [Lib.bitLenAux, if_neg h0]
        rw [ih _ (by omega)]
        unfold blen
        rw [digs_pos 2 (by omega) n h0, List.length_cons]
        omega
  exact key 64 n h
theorem pow32 (k : Nat) : W32 ^ k = 2 ^ (32 * k) := by rw [Nat.pow_mul]; rfl
/-- limbs: their highest one tells the length in bits -/
theorem blen_limbs (n : Nat) (h : n ≠ 0) : blen n = 32 * ((limbs n).length - 1) + blen (nth (limbs n) ((limbs n).length - 1)) ∧ nth (limbs n) ((limbs n).length - 1) ≠ 0 ∧ 0 < (limbs n).length := by
  have h0 : (limbs n).length ≠ 0 := fun h1 => h ((digs_nil W32 W32_ge n).1 h1)
  have hl := digs_last W32 W32_ge n
  have hne : nth (limbs n) ((limbs n).length - 1) ≠ 0 := by
    rcases hl with hl | hl
    · exact absurd hl h0
    · exact hl
  refine ⟨?_, hne, by omega⟩
  have h1 := val_take_drop W32 (limbs n) ((limbs n).length - 1) (by omega)
  rw [show val W32 (limbs n) = n from nv_limbs n, val_drop _ _ _ (by omega), List.drop_of_length_le (by omega)] at h1
  simp only [val, Nat.mul_zero, Nat.add_zero] at h1
  have h2 := val_lt (show 0 < W32 by decide) ((fit_digs W32 W32_ge n).take ((digs W32 n).length - 1))
  rw [List.length_take, Nat.min_eq_left (by omega)] at h2
  rw [pow32] at h1 h2
  have h3 := blen_high _ _ _ h2 hne
  rw [← h3, ← h1]

/-- three-way order -/
@[irreducible] def cmpN (x y : Nat) : Int := if x < y then -1 else if x = y then 0 else 1
theorem cmpN_lt {x y : Nat} (h : x < y) : cmpN x y = -1 := by unfold cmpN; rw [if_pos h]
theorem cmpN_gt {x y : Nat} (h : y < x) : cmpN x y = 1 := by unfold cmpN; rw [if_neg (by omega), if_neg (by omega)]
theorem cmpN_eq (x : Nat) : cmpN x x = 0 := by unfold cmpN; rw [if_neg (by omega), if_pos rfl]
theorem cmpN_cases (x y : Nat) : (x < y ∧ cmpN x y = -1) ∨ (x = y ∧ cmpN x y = 0) ∨ (y < x ∧ cmpN x y = 1) := by
  rcases Nat.lt_trichotomy x y with h | h | h
  · exact .inl ⟨h, cmpN_lt h⟩
  · subst h; exact .inr (.inl ⟨rfl, cmpN_eq x⟩)
  · exact .inr (.inr ⟨h, cmpN_gt h⟩)
/-- the loop of a comparison from the top: what it knows at k -/
def SameFrom (a b : List Nat) (k : Nat) : Prop := ∀ j, k ≤ j → j < a.length → nth a j = nth b j
theorem cmp_stop_lt {B : Nat} (hB : 2 ≤ B) {x y k : Nat} (hl : (digs B x).length = (digs B y).length) (hk : k < (digs B x).length) (hs : SameFrom (digs B x) (digs B y) (k + 1)) (h : nth (digs B x) k < nth (digs B y) k) : cmpN x y = -1 := by
  apply cmpN_lt
  have := val_lt_of (by omega) (fit_digs B hB x) hl k hk (fun j h1 h2 => hs j (by omega) h2) h
  rwa [val_digs B hB, val_digs B hB] at this
theorem cmp_stop_gt {B : Nat} (hB : 2 ≤ B) {x y k : Nat} (hl : (digs B x).length = (digs B y).length) (hk : k < (digs B x).length) (hs : SameFrom (digs B x) (digs B y) (k + 1)) (h : nth (digs B y) k < nth (digs B x) k) : cmpN x y = 1 := by
  apply cmpN_gt
  have := val_lt_of (by omega) (fit_digs B hB y) hl.symm k (by omega) (fun j h1 h2 => (hs j (by omega) (by omega)).symm) h
  rwa [val_digs B hB, val_digs B hB] at this
theorem cmp_end {B : Nat} (hB : 2 ≤ B) {x y : Nat} (hl : (digs B x).length = (digs B y).length) (hs : SameFrom (digs B x) (digs B y) 0) : cmpN x y = 0 := by
  have : x = y := by
    have := val_eq_of (B := B) hl (fun j h => hs j (by omega) h)
    rwa [val_digs B hB, val_digs B hB] at this
  rw [this, cmpN_eq]
theorem fit_limbs (n : Nat) : Fit W32 (limbs n) := fit_digs W32 W32_ge n
theorem blen_32 {n : Nat} (h : n ≤ 4294967295) : blen n ≤ 32 := (blen_le n 32).2 (by omega)
theorem bitLen_32 {n : Nat} (h : n ≤ 4294967295) : Lib.bitLen n = blen n := blen_bitLen n (by omega)
theorem nv_lt {xs : List Nat} (h : Fit W32 xs) : nv xs < W32 ^ xs.length := val_lt (by decide) h
theorem limbs_len_le {xs : List Nat} (h : Fit W32 xs) : (limbs (nv xs)).length ≤ xs.length := (digs_len W32 W32_ge _ _).2 (nv_lt h)

/-! one digit more -/
theorem OwnI.snoc {k : IntKind} {e : TypeId} {B : Nat} {w : World} {v : Value} {o : List Nat} {n : Nat} {z : Int} {d : Nat} (h : w.ownsRow B e 1 v n (ints k o ++ [.int k z])) (hn : n = o.length + 1) (hz : z = (d : Int)) : OwnI k e B w v (o ++ [d]) := by
  subst hz hn
  unfold OwnI
  rw [ints_app, List.length_append]
  exact h
theorem OwnL.snoc {e : TypeId} {B : Nat} {w : World} {v : Value} {o : List Nat} {n : Nat} {z : Int} {d : Nat} (h : w.ownsRow B e 1 v n (ints .u32 o ++ [.int .u32 z])) (hn : n = o.length + 1) (hz : z = (d : Int)) (ho : Fit W32 o) (hd : d < W32) : OwnL e B w v (o ++ [d]) :=
  ⟨OwnI.snoc h hn hz, ho.app (Fit.one hd)⟩
theorem carry_step (W Q t : Nat) : Q * (t % W) + Q * W * (t / W) = Q * t := by rw [Nat.mul_assoc, ← Nat.mul_add, Nat.mod_add_div]
theorem add_step {o ya yb : List Nat} {k cc t : Nat} (hol : o.length = k) (hinv : nv o + W32 ^ k * cc = nv (ya.take k) + nv (yb.take k)) (ht : t = cc + nth ya k + nth yb k) : nv (o ++ [t % W32]) + W32 ^ (k + 1) * (t / W32) = nv (ya.take (k + 1)) + nv (yb.take (k + 1)) := by
  unfold nv at *
  rw [val_snoc, hol, val_take_succ, val_take_succ, Nat.pow_succ, Nat.add_assoc, carry_step, ht, Nat.mul_add, Nat.mul_add]
  omega

/-! a digit put in place -/
theorem len_set (o : List Nat) (k d : Nat) : (o.set k d).length = o.length := by simp
theorem take_set_succ (o : List Nat) (k d : Nat) (h : k < o.length) : (o.set k d).take (k + 1) = o.take k ++ [d] := by
  rw [List.take_succ_eq_append_getElem (by simpa using h), List.getElem_set_self, List.take_set, List.set_eq_of_length_le (by simp; omega)]
theorem val_take_set (B : Nat) (o : List Nat) (k d : Nat) (h : k < o.length) : val B ((o.set k d).take (k + 1)) = val B (o.take k) + B ^ k * d := by
  rw [take_set_succ o k d h, val_snoc, List.length_take, Nat.min_eq_left (by omega)]
theorem val_take_of_lt {B : Nat} (_hB : 0 < B) (xs : List Nat) (n : Nat) (h : val B xs < B ^ n) : val B (xs.take n) = val B xs := by
  by_cases hn : n ≤ xs.length
  · have h1 := val_take_drop B xs n hn
    have h2 : val B (xs.drop n) = 0 := by
      by_cases h0 : val B (xs.drop n) = 0
      · exact h0
      · exfalso
        have : B ^ n * 1 ≤ B ^ n * val B (xs.drop n) := Nat.mul_le_mul_left _ (by omega)
        omega
    rw [h2] at h1
    omega
  · rw [List.take_of_length_le (by omega)]
theorem sub_step {o ya yb : List Nat} {k c c' d : Nat} (hk : k < o.length) (hinv : nv (ya.take k) + W32 ^ k * c = nv (o.take k) + nv (yb.take k)) (hd : nth ya k + W32 * c' = d + c + nth yb k) :
    nv (ya.take (k + 1)) + W32 ^ (k + 1) * c' = nv ((o.set k d).take (k + 1)) + nv (yb.take (k + 1)) := by
  unfold nv at *
  rw [val_take_set _ _ _ _ hk, val_take_succ, val_take_succ, Nat.pow_succ, Nat.mul_assoc]
  have h := congrArg (fun t => W32 ^ k * t) hd
  simp only [Nat.mul_add] at h
  omega
theorem sub_end {o ya yb : List Nat} {c : Nat} (ho : Fit W32 o) (hy : Fit W32 ya) (hl : o.length = ya.length) (hle : nv yb ≤ nv ya) (hinv : nv (ya.take ya.length) + W32 ^ ya.length * c = nv (o.take ya.length) + nv (yb.take ya.length)) : nv o = nv ya - nv yb := by
  have h1 := nv_lt hy
  have h2 := nv_lt ho
  unfold nv at *
  rw [val_take_of_lt (by decide) yb _ (by omega), val_take_ge _ _ _ (by omega), val_take_ge _ _ _ (by omega)] at hinv
  rw [hl] at h2
  have hc : c = 0 := by
    by_cases h0 : c = 0
    · exact h0
    · exfalso
      have : W32 ^ ya.length * 1 ≤ W32 ^ ya.length * c := Nat.mul_le_mul_left _ (by omega)
      omega
  subst hc
  omega
theorem OwnI.cellAt {k : IntKind} {e : TypeId} {B g n cap : Nat} {w : World} {o : List Nat} (h : OwnI k e B w (.slice (some ⟨g, 0, none⟩) n cap) o) (i : Nat) (hi : i < o.length) : w.cell? ⟨g, i, none⟩ = some (.int k (nth o i)) := by
  have := h.rd.cell i hi
  rwa [Nat.zero_add] at this
theorem OwnI.len {k : IntKind} {e : TypeId} {B n cap : Nat} {a : Option Addr} {w : World} {o : List Nat} (h : OwnI k e B w (.slice a n cap) o) : n = o.length := by
  obtain ⟨_, _, h1, _⟩ := h.rd.shape
  simp only [Value.slice.injEq] at h1
  exact h1.2.1
theorem OwnI.lt {k : IntKind} {e : TypeId} {B g n cap : Nat} {w : World} {o : List Nat} (h : OwnI k e B w (.slice (some ⟨g, 0, none⟩) n cap) o) : B ≤ g ∧ g < w.heap.size := World.ownsRow.lt h g rfl
theorem OwnI.free {k : IntKind} {e : TypeId} {B g n cap : Nat} {w : World} {o : List Nat} (h : OwnI k e B w (.slice (some ⟨g, 0, none⟩) n cap) o) (i : Nat) : w.frozen? ⟨g, i, none⟩ = false := by
  obtain rfl := h.len
  exact World.ownsRow.frozenAt h i
theorem OwnI.set {k : IntKind} {e : TypeId} {B g n cap : Nat} {w : World} {o : List Nat} (h : OwnI k e B w (.slice (some ⟨g, 0, none⟩) n cap) o) (i : Nat) {z : Int} {d : Nat} (hz : z = (d : Int)) : OwnI k e B (w.setCell ⟨g, i, none⟩ (.int k z)) (.slice (some ⟨g, 0, none⟩) n cap) (o.set i d) := by
  subst hz
  obtain rfl := h.len
  have := (World.ownsRow.stored h i (.int k d)).1
  unfold OwnI
  rw [List.length_set]
  have e : ints k (o.set i d) = (ints k o).set i (.int k d) := by simp [ints, List.map_set]
  rw [e]
  exact this
theorem OwnL.set {e : TypeId} {B g n cap : Nat} {w : World} {o : List Nat} (h : OwnL e B w (.slice (some ⟨g, 0, none⟩) n cap) o) (i : Nat) {z : Int} {d : Nat} (hz : z = (d : Int)) (hd : d < W32) : OwnL e B (w.setCell ⟨g, i, none⟩ (.int .u32 z)) (.slice (some ⟨g, 0, none⟩) n cap) (o.set i d) :=
  ⟨h.1.set i hz, h.2.set i d hd⟩

/-! shifts -/
theorem shl_step {o xs : List Nat} {q k s c t : Nat} (hol : o.length = q + k) (hinv : nv o + W32 ^ (q + k) * c = W32 ^ q * 2 ^ s * nv (xs.take k)) (ht : t = c + nth xs k * 2 ^ s) :
    nv (o ++ [t % W32]) + W32 ^ (q + (k + 1)) * (t / W32) = W32 ^ q * 2 ^ s * nv (xs.take (k + 1)) := by
  unfold nv at *
  rw [val_snoc, hol, val_take_succ, ← Nat.add_assoc q k 1, Nat.pow_succ, Nat.add_assoc, carry_step, ht, Nat.mul_add, Nat.mul_add, ← Nat.add_assoc, hinv, Nat.pow_add]
  congr 1
  simp only [Nat.mul_assoc, Nat.mul_comm, Nat.mul_left_comm]
theorem shl_carry {c x s t : Nat} (hc : c < 2 ^ s) (hx : x ≤ 4294967295) (ht : t = c + x * 2 ^ s) : t / W32 < 2 ^ s := by
  rw [Nat.div_lt_iff_lt_mul (by decide)]
  have h1 : x * 2 ^ s ≤ 4294967295 * 2 ^ s := Nat.mul_le_mul_right _ hx
  unfold W32
  omega
theorem shl_end {o xs : List Nat} {n c : Nat} (hol : o.length = n / 32 + xs.length) (hinv : nv o + W32 ^ (n / 32 + xs.length) * c = W32 ^ (n / 32) * 2 ^ (n % 32) * nv (xs.take xs.length)) : nv (o ++ [c]) = nv xs * 2 ^ n := by
  unfold nv at *
  rw [val_snoc, hol, hinv, val_take_ge _ _ _ (Nat.le_refl _), pow32, ← Nat.pow_add, Nat.div_add_mod, Nat.mul_comm]
theorem pow_lt_32 {s : Nat} (h : s < 32) : 2 ^ s ≤ 2147483648 := by
  have : 2 ^ s ≤ 2 ^ 31 := Nat.pow_le_pow_right (by omega) (by omega)
  omega

theorem val_div {B : Nat} (hB : 0 < B) {xs : List Nat} (h : Fit B xs) (k : Nat) : val B xs / B ^ k = val B (xs.drop k) := by
  by_cases hk : k ≤ xs.length
  · rw [val_take_drop B xs k hk]
    have h1 := val_lt hB (h.take k)
    rw [List.length_take, Nat.min_eq_left hk] at h1
    rw [Nat.add_mul_div_left _ _ (Nat.pow_pos hB), Nat.div_eq_of_lt h1, Nat.zero_add]
  · rw [List.drop_of_length_le (by omega), val]
    apply Nat.div_eq_of_lt
    exact Nat.lt_of_lt_of_le (val_lt hB h) (Nat.pow_le_pow_right hB (by omega))
theorem val_mod {B : Nat} (hB : 0 < B) {xs : List Nat} (h : Fit B xs) (k : Nat) : val B xs % B ^ k = val B (xs.take k) := by
  by_cases hk : k ≤ xs.length
  · rw [val_take_drop B xs k hk]
    have h1 := val_lt hB (h.take k)
    rw [List.length_take, Nat.min_eq_left hk] at h1
    rw [Nat.add_mul_mod_self_left, Nat.mod_eq_of_lt h1]
  · rw [List.take_of_length_le (by omega)]
    apply Nat.mod_eq_of_lt
    exact Nat.lt_of_lt_of_le (val_lt hB h) (Nat.pow_le_pow_right hB (by omega))
theorem two_limbs (x y r s : Nat) (hs : s < 32) : (x + W32 * (y + W32 * r)) / 2 ^ s % W32 = (x + y * 4294967296) / 2 ^ s % W32 := by
  have e : x + W32 * (y + W32 * r) = (x + y * 4294967296) + 2 ^ s * (2 ^ (32 - s) * W32 * r) := by
    rw [← Nat.mul_assoc, ← Nat.mul_assoc, ← Nat.pow_add, show s + (32 - s) = 32 by omega]
    unfold W32
    omega
  rw [e, Nat.add_mul_div_left _ _ (Nat.two_pow_pos s), show 2 ^ (32 - s) * W32 * r = W32 * (2 ^ (32 - s) * r) by simp only [Nat.mul_comm, Nat.mul_left_comm], Nat.add_mul_mod_self_left]
theorem shr_step {o ys : List Nat} {k s d : Nat} (hs : s < 32) (hf : Fit W32 ys) (hk : k < ys.length) (hol : o.length = ys.length) (hinv : nv (o.take k) = nv ys / 2 ^ s % W32 ^ k) (hd : d = (nth ys k + nth ys (k + 1) * 4294967296) / 2 ^ s % W32) :
    nv ((o.set k d).take (k + 1)) = nv ys / 2 ^ s % W32 ^ (k + 1) := by
  unfold nv at *
  rw [val_take_set _ _ _ _ (by omega), hinv, Nat.pow_succ, Nat.mod_mul]
  congr 2
  rw [Nat.div_div_eq_div_mul, Nat.mul_comm, ← Nat.div_div_eq_div_mul, val_div (by decide) hf, val_drop _ _ _ hk, hd]
  by_cases h2 : k + 1 < ys.length
  · rw [val_drop _ _ _ h2, two_limbs _ _ _ _ hs]
  · rw [List.drop_of_length_le (by omega), nth_ge ys (k + 1) (by omega)]
    simp [val]
theorem shr_end {o xs : List Nat} {n : Nat} (hf : Fit W32 xs) (hol : o.length = xs.length - n / 32) (hinv : nv (o.take (xs.length - n / 32)) = nv (xs.drop (n / 32)) / 2 ^ (n % 32) % W32 ^ (xs.length - n / 32)) : nv o = nv xs / 2 ^ n := by
  unfold nv at *
  have h1 := val_lt (show 0 < W32 by decide) (hf.drop (n / 32))
  rw [List.length_drop] at h1
  rw [val_take_ge _ _ _ (by omega), Nat.mod_eq_of_lt (Nat.lt_of_le_of_lt (Nat.div_le_self _ _) h1), ← val_div (by decide) hf, pow32, Nat.div_div_eq_div_mul, ← Nat.pow_add, Nat.div_add_mod] at hinv
  exact hinv
theorem shr_zero {xs : List Nat} {n : Nat} (hf : Fit W32 xs) (h : xs.length ≤ n / 32) : nv xs / 2 ^ n = 0 := by
  apply Nat.div_eq_of_lt
  have h1 := nv_lt hf
  rw [pow32] at h1
  exact Nat.lt_of_lt_of_le h1 (Nat.pow_le_pow_right (by omega) (by omega))

theorem limbs_len (n k : Nat) : (limbs n).length ≤ k ↔ n < W32 ^ k := digs_len W32 W32_ge n k
/-! bytes -/
theorem W256 : W32 = 256 ^ 4 := by decide
def bytes4 (x : Nat) : List Nat := [x % 256, x / 256 % 256, x / 65536 % 256, x / 16777216 % 256]
theorem val_bytes4 {x : Nat} (h : x ≤ 4294967295) : val 256 (bytes4 x) = x := by
  show x % 256 + 256 * (x / 256 % 256 + 256 * (x / 65536 % 256 + 256 * (x / 16777216 % 256 + 256 * 0))) = x
  omega
theorem fit_bytes4 (x : Nat) : Fit 256 (bytes4 x) := by
  intro y hy
  simp [bytes4] at hy
  omega
theorem pack_step {o xs : List Nat} {k : Nat} (hf : Fit W32 xs) (hol : o.length = 4 * k) (hinv : val 256 o = nv (xs.take k)) : val 256 (o ++ bytes4 (nth xs k)) = nv (xs.take (k + 1)) := by
  unfold nv at *
  rw [val_app, hol, hinv, val_take_succ, val_bytes4 (hf.nth32 k), W256, ← Nat.pow_mul]
theorem OwnI.app {k : IntKind} {e : TypeId} {B : Nat} {w : World} {v : Value} {o ds : List Nat} {n : Nat} {ys : List Value} (h : w.ownsRow B e 1 v n (ints k o ++ ys)) (hn : n = o.length + ds.length) (hy : ys = ints k ds) : OwnI k e B w v (o ++ ds) := by
  subst hn hy
  unfold OwnI
  rw [ints_app, List.length_append]
  exact h
theorem val_set (B : Nat) (o : List Nat) (k d : Nat) (h : k < o.length) : val B (o.set k d) + B ^ k * nth o k = val B o + B ^ k * d := by
  have h1 := val_take_drop B (o.set k d) (k + 1) (by simp; omega)
  have h2 := val_take_drop B o (k + 1) (by omega)
  rw [val_take_set B o k d h] at h1
  rw [val_take_succ] at h2
  have h3 : (o.set k d).drop (k + 1) = o.drop (k + 1) := by rw [List.drop_set]; simp
  rw [h3] at h1
  omega
theorem nth_set (o : List Nat) (k d : Nat) (h : k < o.length) : nth (o.set k d) k = d := by
  unfold nth; simp [List.getD, h]
theorem nth_set_ne (o : List Nat) (k j d : Nat) (h : k ≠ j) : nth (o.set k d) j = nth o j := by
  unfold nth; simp [List.getD, List.getElem?_set_ne h]
theorem nth_le_val {B : Nat} (xs : List Nat) (k : Nat) : B ^ k * nth xs k ≤ val B xs := by
  by_cases h : k < xs.length
  · have h2 := val_take_drop B xs (k + 1) (by omega)
    rw [val_take_succ] at h2
    omega
  · rw [nth_ge xs k (by omega)]; simp
/-- a digit below its place's room -/
theorem nth_small {o : List Nat} {q r : Nat} (h : val W32 o < 256 ^ (4 * q + r)) : nth o q < 2 ^ (8 * r) := by
  have h1 := nth_le_val (B := W32) o q
  rw [W256, ← Nat.pow_mul] at h1
  rw [Nat.pow_add] at h
  rw [show (2 : Nat) ^ (8 * r) = 256 ^ r by rw [Nat.pow_mul]]
  by_cases hh : nth o q < 256 ^ r
  · exact hh
  · exfalso
    have : 256 ^ (4 * q) * 256 ^ r ≤ 256 ^ (4 * q) * nth o q := Nat.mul_le_mul_left _ (by omega)
    rw [W256] at h
    omega

end Go.Att
