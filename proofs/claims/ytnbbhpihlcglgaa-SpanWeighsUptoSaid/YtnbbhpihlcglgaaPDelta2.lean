/- delta.Add, Neg, Sub, Scale; attestref07.At; attestlaw07.is -/
import Derived.Test.YtnbbhpihlcglgaaPDelta
import Derived.Test.YtnbbhpihlcglgaaRatAll
import Derived.Test.YtnbbhpihlcglgaaRef5All
import Derived.Test.YtnbbhpihlcglgaaPIs05
import Derived.Test.YtnbbhpihlcglgaaRowAll
namespace Go.Proofs.Ytnbbhpihlcglgaa
open Go.RowKit Go.Att

theorem rdq_neg {w : World} {x n d : Value} {q : Rat} (h : RdQ w (.agg #[x, n, d]) q) : RdQ w (.agg #[.bool (decide ((-q).num < 0)), n, d]) (-q) := by
  obtain ⟨n', d', he, hn, hd⟩ := h
  obtain ⟨rfl, rfl, rfl⟩ : x = .bool (decide (q.num < 0)) ∧ n = n' ∧ d = d' := by simpa using he
  exact ⟨n, d, rfl, by rw [Rat.neg_num, Int.natAbs_neg]; exact hn, hd⟩
end Go.Proofs.Ytnbbhpihlcglgaa
