/- The walk's own bit operations on naturals; more on digits. -/
import Derived.Test.YtblbpelaleaonaaNum2
import Derived.Test.YtblbpelaleaonaaLaw
namespace Go.Att
open Go.RowKit

theorem bits_or {k : IntKind} (hk : k.signed = false) {X Y V : Nat} (hx : X < 2 ^ k.bits) (hy : Y < 2 ^ k.bits) (hV : X ||| Y = V) : Go.bits .or k X Y = V := by
  have hv : V < 2 ^ k.bits := by rw [← hV]; exact Nat.or_lt_two_pow hx hy
  unfold Go.bits
  simp only [BitVec.ofInt_natCast, BitVec.toNat_or, BitVec.toNat_ofNat, Nat.mod_eq_of_lt hx, Nat.mod_eq_of_lt hy, hV, wrap_id hk hv]

theorem unpack_step {o bs : List Nat} {k d : Nat} (hk : k < bs.length) (hol : bs.length ≤ 4 * o.length) (hinv : val W32 o = val 256 (bs.take k)) (hd : d = nth o (k / 4) + nth bs k * 2 ^ (8 * (k % 4))) :
    val W32 (o.set (k / 4) d) = val 256 (bs.take (k + 1)) := by
  have h1 := val_set W32 o (k / 4) d (by omega)
  have e : W32 ^ (k / 4) * (nth bs k * 2 ^ (8 * (k % 4))) = 256 ^ k * nth bs k := by
    rw [pow32, Nat.mul_comm (nth bs k), ← Nat.mul_assoc, ← Nat.pow_add, show 32 * (k / 4) + 8 * (k % 4) = 8 * k by omega, Nat.pow_mul]
  rw [hd, Nat.mul_add, e, hinv] at h1
  rw [hd, val_take_succ]
  omega
theorem unpack_small {o bs : List Nat} {k : Nat} (hf : Fit 256 bs) (hk : k < bs.length) (hinv : val W32 o = val 256 (bs.take k)) : nth o (k / 4) < 2 ^ (8 * (k % 4)) := by
  apply nth_small (r := k % 4)
  rw [hinv, show 4 * (k / 4) + k % 4 = k by omega]
  have h := val_lt (show 0 < 256 by decide) (hf.take k)
  rwa [List.length_take, Nat.min_eq_left (by omega)] at h
theorem pow8_le {r : Nat} (h : r < 4) : 2 ^ (8 * r) ≤ 16777216 := by
  have : 2 ^ (8 * r) ≤ 2 ^ 24 := Nat.pow_le_pow_right (by omega) (by omega)
  omega
theorem shl_cast32 (x r : Nat) (h : x * 2 ^ r < 4294967296) : ((x : Int) * 2 ^ r) % 4294967296 = ((x * 2 ^ r : Nat) : Int) := by
  have e : (x : Int) * 2 ^ r = ((x * 2 ^ r : Nat) : Int) := by simp
  rw [e]
  omega
end Go.Att
