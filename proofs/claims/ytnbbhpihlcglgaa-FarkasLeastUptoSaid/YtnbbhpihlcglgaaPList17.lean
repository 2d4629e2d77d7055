/- attestlaw17.List, rats -/
import Derived.Test.YtnbbhpihlcglgaaRowAll
import Derived.Test.YtnbbhpihlcglgaaPTold
namespace Go.Proofs.Ytnbbhpihlcglgaa
open Go.RowKit Go.Att

theorem etRats : ElemT Try.prog 27 32 (.agg #[.bool false, .slice none 0 0, .slice none 0 0]) 3 56 := ElemT.mk' Try.underlying27 (by kernel_rfl) rfl (by decide)
theorem take_map_snoc {α β : Type} (f : α → β) {l : List α} {k : Nat} (h : k < l.length) : (l.take (k + 1)).map f = (l.take k).map f ++ [f l[k]] := by
  rw [← List.take_append_getElem h, List.map_append]; rfl
end Go.Proofs.Ytnbbhpihlcglgaa
