/- attestref08.Vars -/
import Derived.Test.YtnbbhpihlcglgaaLinPlain
import Derived.Test.YtnbbhpihlcglgaaPR8Coef
namespace Go.Proofs.Ytnbbhpihlcglgaa
open Go.RowKit Go.Att

def RdYp (w : World) (v : Value) (p : TL × Rat) : Prop := RdY w v p.1 p.2
theorem RdYp.ext {w w' : World} {v : Value} {p : TL × Rat} (h : RdYp w v p) (x : Ext w w') : RdYp w' v p := RdEy.ext h x
/-- The new row while the old one is gone through: all of it but y, and y where d is true. -/
def NxI (y : Int) (us : List Int) (m : Nat) (d : Bool) (ns : List Int) : Prop := (us.Nodup → ns.Nodup) ∧ ns.length ≤ m + d.toNat ∧ ∀ x, x ∈ ns ↔ (x ∈ us.take m ∧ x ≠ y) ∨ (d = true ∧ x = y)
theorem nodup_snoc {l : List Int} {x : Int} (h : l.Nodup) (hx : x ∉ l) : (l ++ [x]).Nodup := by
  rw [List.nodup_append]
  exact ⟨h, by simp, fun a ha b hb => by rw [List.mem_singleton.1 hb]; exact fun e => hx (e ▸ ha)⟩
theorem NxI.ins {y : Int} {us ns : List Int} {m : Nat} (h : NxI y us m false ns) : NxI y us m true (ns ++ [y]) := ⟨fun hu => nodup_snoc (h.1 hu) fun hy => by
  rcases (h.2.2 y).1 hy with g | g
  · exact g.2 rfl
  · exact absurd g.1 (by decide), by have := h.2.1; simp at this ⊢; omega, fun x => by
  rw [List.mem_append, h.2.2 x, List.mem_singleton]
  simp⟩
theorem NxI.put {y u : Int} {us ns : List Int} {m : Nat} {d : Bool} (h : NxI y us m d ns) (hm : m < us.length) (hu : us[m] = u) (hne : u ≠ y) : NxI y us (m + 1) d (ns ++ [u]) := ⟨fun hn => nodup_snoc (h.1 hn) fun hy => by
  rcases (h.2.2 u).1 hy with g | g
  · rw [← List.take_append_drop m us, List.nodup_append] at hn
    refine hn.2.2 u g.1 u ?_ rfl
    rw [← hu]
    exact List.mem_drop_iff_getElem.2 ⟨0, by simpa using hm, by simp⟩
  · exact hne g.2, by have := h.2.1; simp at this ⊢; omega, fun x => by
  rw [← List.take_append_getElem hm, List.mem_append, List.mem_append, h.2.2 x, List.mem_singleton, List.mem_singleton, hu]
  constructor
  · rintro (h | h)
    · rcases h with h | h
      · exact .inl ⟨.inl h.1, h.2⟩
      · exact .inr h
    · exact .inl ⟨.inr h, h ▸ hne⟩
  · rintro (⟨h | h, h2⟩ | h)
    · exact .inl (.inl ⟨h, h2⟩)
    · exact .inr h
    · exact .inl (.inr h)⟩
theorem NxI.skip {y u : Int} {us ns : List Int} {m : Nat} {d : Bool} (h : NxI y us m d ns) (hm : m < us.length) (hu : us[m] = u) (hne : u = y) : NxI y us (m + 1) d ns := ⟨h.1, by have := h.2.1; omega, fun x => by
  rw [← List.take_append_getElem hm, List.mem_append, h.2.2 x, List.mem_singleton, hu]
  constructor
  · rintro (h | h)
    · exact .inl ⟨.inl h.1, h.2⟩
    · exact .inr h
  · rintro (⟨h | h, h2⟩ | h)
    · exact .inl ⟨h, h2⟩
    · exact absurd (h.trans hne) h2
    · exact .inr h⟩
theorem NxI.fin {y : Int} {us ns : List Int} (h : NxI y us us.length true ns) : ns.length ≤ us.length + 1 ∧ (us.Nodup → ns.Nodup) ∧ ∀ x, x ∈ ns ↔ x ∈ us ∨ x = y := ⟨h.2.1, h.1, fun x => by
  rw [h.2.2 x, List.take_length]
  constructor
  · rintro (h | h)
    · exact .inl h.1
    · exact .inr h.2
  · intro h
    by_cases hx : x = y
    · exact .inr ⟨rfl, hx⟩
    · exact .inl ⟨h.resolve_right hx, hx⟩⟩
end Go.Proofs.Ytnbbhpihlcglgaa
