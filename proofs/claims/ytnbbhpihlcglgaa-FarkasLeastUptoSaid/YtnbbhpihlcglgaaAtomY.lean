/- The document's constraints: how they lie in memory. Nothing here names the program. -/
import Derived.Test.YtnbbhpihlcglgaaAtom
import Derived.Test.YtnbbhpihlcglgaaLinPlain
namespace Go.Att
open Go.RowKit

theorem OwnEy.grown {e t e' : TypeId} {B' : Nat} {w w' : World} {v v' : Value} {l : TL} {c : Rat} {B n size : Nat} {xs : List Value} (h : OwnEy e t B w v l c) (hr : w.ownsRow B' e' size v' n xs) (h1 : e ≠ e') (h2 : t ≠ e') (hg : w.grownBy w' v'.ownBlock) : OwnEy e t B w' v l c := by
  obtain ⟨s, x, y, z, rfl, h3, h4⟩ := h
  refine ⟨s, x, y, z, rfl, h3.grown (fun u a h => h.grown hr h1 hg) hr h2 hg, ?_⟩
  obtain ⟨n', d', he, g1, g2⟩ := h4
  exact ⟨n', d', he, owns_grown g1 hr h1 hg, owns_grown g2 hr h1 hg⟩
def OwnBt (e t : TypeId) (w : World) (v : Value) (p : AT) : Prop := ∃ s x y z, v = .agg #[s, x, y, z, .int .i64 p.2] ∧ OwnEy e t 0 w (.agg #[s, x, y, z]) p.1.1 p.1.2
theorem OwnBt.ext {e t : TypeId} {w w' : World} {v : Value} {p : AT} (h : OwnBt e t w v p) (x : Ext w w') : OwnBt e t w' v p := by
  obtain ⟨a, b, c, d, rfl, h⟩ := h
  exact ⟨a, b, c, d, rfl, h.ext x⟩
theorem OwnBt.op {e t : TypeId} {w : World} {v : Value} {p : AT} (h : OwnBt e t w v p) : ∃ a k s b m d b' m' d', v = .agg #[.slice a p.1.1.length k, .bool s, .slice b m d, .slice b' m' d', .int .i64 p.2] ∧ Hid (OwnEy e t 0 w (.agg #[.slice a p.1.1.length k, .bool s, .slice b m d, .slice b' m' d']) p.1.1 p.1.2) := by
  obtain ⟨s, x, y, z, rfl, h⟩ := h
  obtain ⟨a, k, s, b, m, d, b', m', d', he, -, -, h1⟩ := h.op
  simp only [Value.agg.injEq, Array.mk.injEq, List.cons.injEq, and_true] at he
  obtain ⟨rfl, rfl, rfl, rfl⟩ := he
  exact ⟨a, k, s, b, m, d, b', m', d', rfl, h1⟩
end Go.Att
