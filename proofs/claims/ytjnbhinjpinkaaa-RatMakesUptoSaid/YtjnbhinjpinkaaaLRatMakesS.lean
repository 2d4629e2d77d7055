/- the sign of nought -/
import Derived.Test.YtjnbhinjpinkaaaPRatSign
import Derived.Test.YtjnbhinjpinkaaaRatPlain
namespace Go.Proofs.Ytjnbhinjpinkaaa.ratMakes
open Go.RowKit Go.Att

theorem sign_zero {w : World} : Calls Try.prog 22 #[.agg #[.bool false, .slice none 0 0, .slice none 0 0]] w (Gives w fun v' _ => v' = .int .i64 0) := by
  have h := rsign_any (RdQ.zero w)
  rw [show (0 : Rat).num.sign = 0 by rw [Rat.zero_num]; rfl] at h
  exact h
end Go.Proofs.Ytjnbhinjpinkaaa.ratMakes
