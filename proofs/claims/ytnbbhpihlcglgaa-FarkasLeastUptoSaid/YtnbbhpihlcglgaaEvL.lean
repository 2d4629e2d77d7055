/- The value of an expression at a point. Nothing here walks. -/
import Derived.Test.YtnbbhpihlcglgaaLinPlain
import Derived.Test.YtnbbhpihlcglgaaBq
import Derived.Test.YtnbbhpihlcglgaaRowAll
namespace Go.Att
open Go.RowKit

theorem Bo.c3 {w : World} {b o : Nat} {x0 x1 x2 : Value} {l : List Value} (h : Bo w b o (x0 :: x1 :: x2 :: l)) : w.cell? ⟨b, o, none⟩ = some x0 ∧ w.cell? ⟨b, o + 1, none⟩ = some x1 ∧ w.cell? ⟨b, o + 2, none⟩ = some x2 :=
  ⟨h 0 _ rfl, h 1 _ rfl, h 2 _ rfl⟩
theorem gt_mem' {P : List Rat} {i : Nat} (h : i < P.length) : gt P i ∈ P := by rw [gt_lt h]; exact List.getElem_mem h
/-- One number of a row. -/
theorem RdRow.oq {e : TypeId} {w : World} {a : Option Addr} {n c : Nat} {l : List Rat} (h : RdRow 3 (OwnQp e) w (.slice a n c) l) (i : Nat) (hi : i < l.length) :
    ∃ b off s x k m y k' m', a = some ⟨b, off, none⟩ ∧ Bo w b (off + i * 3) [.bool s, .slice x k m, .slice y k' m'] ∧ OwnQ e 0 w (.agg #[.bool s, .slice x k m, .slice y k' m']) (gt l i) := by
  obtain ⟨b1, o1, cs, he, hl, hT, hc⟩ := h.at (by decide) i hi
  obtain ⟨s, x, k, m, y, k', m', h1, h2⟩ := OwnQ.op hT
  have : cs = [.bool s, .slice x k m, .slice y k' m'] := by simpa using h1
  subst this
  exact ⟨b1, o1, s, x, k, m, y, k', m', he, Bo.of hc, by rw [gt_lt hi]; exact h2.out⟩
theorem RdRow.op' {e : TypeId} {w : World} {a : Option Addr} {n c : Nat} {l : List Rat} (h : RdRow 3 (OwnPp e) w (.slice a n c) l) (i : Nat) (hi : i < l.length) :
    ∃ b off s x k m y k' m', a = some ⟨b, off, none⟩ ∧ Bo w b (off + i * 3) [.bool s, .slice x k m, .slice y k' m'] ∧ OwnP e 0 w (.agg #[.bool s, .slice x k m, .slice y k' m']) (gt l i) := by
  obtain ⟨b1, o1, cs, he, hl, hT, hc⟩ := h.at (by decide) i hi
  obtain ⟨s, x, k, m, y, k', m', h1, h2⟩ := OwnP.op hT
  have : cs = [.bool s, .slice x k m, .slice y k' m'] := by simpa using h1
  subst this
  exact ⟨b1, o1, s, x, k, m, y, k', m', he, Bo.of hc, by rw [gt_lt hi]; exact h2.out⟩
end Go.Att
