/- Rows of one member; a literal as a row -/
import Derived.Test.YtnbbhpihlcglgaaPTold17
import Derived.Test.YtnbbhpihlcglgaaPRef17
namespace Go.Proofs.Ytnbbhpihlcglgaa
open Go.RowKit Go.Att

theorem RdRow.lit {α : Type} {k : Nat} {T : World → Value → α → Prop} (w : World) (E : List (List Value)) (t : TypeId) {l : List α} (hp : Pw k (fun c a => T w (.agg c.toArray) a) E l) (hT : ∀ {w w' v a}, T w v a → Ext w w' → T w' v a) (hl : l.length ≤ maxLen) :
    RdRow k T (w.alloc (.cells E.flatten.toArray t)) (.slice (some ⟨w.heap.size, 0, none⟩) l.length l.length) l :=
  ⟨E, by simpa using RdV.lit w E.flatten.toArray t k l.length (by simpa using hp.flat) hl, hp.mono fun _ _ h => hT h (Ext.alloc _ _)⟩
theorem OwnE.putT {e t : TypeId} {B c m : Nat} {w : World} {v : Value} {a b : Rat} (h : OwnE e B w v a b) (hc : Rt w c m t) (hne : e ≠ t) (i : Nat) (l : List Value) : OwnE e B (Att.putL w c i l) v a b := by
  obtain ⟨n, d, m, c, rfl, h1, h2, h3, h4⟩ := h
  exact ⟨_, _, _, _, rfl, h1.putT hc hne i l, h2.putT hc hne i l, h3.putT hc hne i l, h4.putT hc hne i l⟩
/-- The one member of a row. -/
theorem RdRow.first {α : Type} {k : Nat} {T : World → Value → α → Prop} {w : World} {v : Value} {a : α} (h : RdRow k T w v [a]) (hk : 0 < k) :
    ∃ (b off c : Nat) (cs : List Value), v = .slice (some ⟨b, off, none⟩) 1 c ∧ 1 ≤ c ∧ cs.length = k ∧ T w (.agg cs.toArray) a ∧ ∀ j v, cs[j]? = some v → w.cell? ⟨b, off + j, none⟩ = some v := by
  obtain ⟨a', c, rfl, h1, h2⟩ := h.shape
  obtain ⟨b, off, cs, rfl, h3, h4, h5⟩ := h.at hk 0 (by simp)
  refine ⟨b, off, c, cs, rfl, h1, h3, h4, fun j v hv => ?_⟩
  rw [← hv, ← h5 j (by have := (List.getElem?_eq_some_iff.1 hv).1; omega)]
  simp
end Go.Proofs.Ytnbbhpihlcglgaa
