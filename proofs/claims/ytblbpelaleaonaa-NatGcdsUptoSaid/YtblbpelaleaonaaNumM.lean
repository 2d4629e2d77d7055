/- How long products are. -/
import Derived.Test.YtblbpelaleaonaaNumN
namespace Go.Att
theorem limbs_mul {a b La Lb : Nat} (ha : (limbs a).length ≤ La) (hb : (limbs b).length ≤ Lb) : (limbs (a * b)).length ≤ La + Lb := by
  refine (limbs_len _ _).2 ?_
  rw [Nat.pow_add]
  exact Nat.mul_lt_mul'' ((limbs_len _ _).1 ha) ((limbs_len _ _).1 hb)
end Go.Att
