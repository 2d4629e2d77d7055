/- One store, and what lies elsewhere (not beside Meet). Nothing here names the program. -/
import Derived.Test.YtnbbhpihlcglgaaRowAll
namespace Go.Att
open Go.RowKit

theorem Bx.set1 {w : World} {b c : Nat} {cs : List Value} (h : Bx w b cs) (hne : b ≠ c) (i : Nat) (v : Value) : Bx (w.setCell ⟨c, i, none⟩ v) b cs := h.putL hne i [v]
theorem Rt.set1 {w : World} {b c n : Nat} {t : TypeId} (h : Rt w b n t) (hne : b ≠ c) (i : Nat) (v : Value) : Rt (w.setCell ⟨c, i, none⟩ v) b n t := h.putL hne i [v]
/-- A world gets a name. -/
theorem gen_world {P : World → Prop} (w : World) (h : ∀ W, W = w → P W) : P w := h w rfl
end Go.Att
