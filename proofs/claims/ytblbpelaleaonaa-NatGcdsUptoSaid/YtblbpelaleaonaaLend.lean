/- Writing into rows that are one's own, and what stays. -/
import Derived.Test.YtblbpelaleaonaaNum3
namespace Go.Att
open Go.RowKit

/-- Block g is a row of cells, at least n of them, none frozen. -/
def RowAt (w : World) (g n : Nat) : Prop := ∃ cur e, w.heap[g]? = some (.cells cur e (0, 0)) ∧ n ≤ cur.size
/-- All blocks but those from B on and below C are as they were. -/
structure Besides (B C : Nat) (w w' : World) : Prop where
  os : w'.os = w.os
  tape : w'.tape = w.tape
  output : w'.output = w.output
  size : w'.heap.size = w.heap.size
  block : ∀ k, k < B ∨ C ≤ k → w'.heap[k]? = w.heap[k]?
theorem Besides.refl (B C : Nat) (w : World) : Besides B C w w := ⟨rfl, rfl, rfl, rfl, fun _ _ => rfl⟩
theorem Besides.set {B C : Nat} {w w' : World} (h : Besides B C w w') {g i : Nat} (hB : B ≤ g) (hC : g < C) (u : Value) : Besides B C w (w'.setCell ⟨g, i, none⟩ u) :=
  ⟨h.os, h.tape, h.output, by simp [World.setCell]; exact h.size, fun k hk => (Below.heap_setCell _ _ _ _ (by show k ≠ g; omega)).trans (h.block k hk)⟩
theorem Besides.below {B C : Nat} {w w' : World} (h : Besides B C w w') : Below B w w' := ⟨h.os, h.tape, h.output, Nat.le_of_eq h.size.symm, fun k hk => h.block k (.inl hk)⟩
theorem RowAt.set {w : World} {g n : Nat} (h : RowAt w g n) (g' i : Nat) (u : Value) : RowAt (w.setCell ⟨g', i, none⟩ u) g n := by
  obtain ⟨cur, e, hh, hn⟩ := h
  by_cases hg : g' = g
  · subst hg
    exact ⟨_, e, heap_setCell_same w g' i cur e u hh, by simpa using hn⟩
  · exact ⟨cur, e, by rw [Below.heap_setCell _ _ _ _ (by show g ≠ g'; omega)]; exact hh, hn⟩
theorem RowAt.cell {w : World} {g n i : Nat} (h : RowAt w g n) (hi : i < n) : ∃ u, w.cell? ⟨g, i, none⟩ = some u := by
  obtain ⟨cur, e, hh, hn⟩ := h
  exact ⟨cur[i], by rw [cell_of_row w g i cur e (0, 0) hh]; exact Array.getElem?_eq_getElem (by omega)⟩
theorem RowAt.free {w : World} {g n : Nat} (h : RowAt w g n) (i : Nat) : w.frozen? ⟨g, i, none⟩ = false := by
  obtain ⟨cur, e, hh, hn⟩ := h
  exact frozen_of_row w g i cur e hh
theorem RowAt.ext {w w' : World} {g n : Nat} (h : RowAt w g n) (x : Ext w w') : RowAt w' g n := by
  obtain ⟨cur, e, hh, hn⟩ := h
  exact ⟨cur, e, by rw [x.block g (Array.getElem?_eq_some_iff.1 hh).1]; exact hh, hn⟩
/-- A slice that may be written into, between blocks B and C. -/
def Mine (B C : Nat) (w : World) (v : Value) (n : Nat) : Prop := ∃ a cap, v = .slice a n cap ∧ n ≤ cap ∧ cap ≤ maxLen ∧ (n = 0 ∨ ∃ g, a = some ⟨g, 0, none⟩ ∧ B ≤ g ∧ g < C ∧ RowAt w g n)
theorem Mine.of_own {k : IntKind} {e : TypeId} {B C : Nat} {w : World} {v : Value} {xs : List Nat} (h : OwnI k e B w v xs) (hC : w.heap.size ≤ C) : Mine B C w v xs.length := by
  rcases h with ⟨h1, ⟨rfl, h2⟩ | ⟨g, cap, cur, rfl, hg, hh, hn, hm, hs, ht⟩⟩
  · rw [h2]; exact ⟨none, 0, rfl, Nat.le_refl _, Nat.zero_le _, .inl rfl⟩
  · exact ⟨_, cap, rfl, hn, hm, .inr ⟨g, rfl, hg, Nat.lt_of_lt_of_le (Array.getElem?_eq_some_iff.1 hh).1 hC, cur, e, hh, by omega⟩⟩
theorem Mine.ext {B C : Nat} {w w' : World} {v : Value} {n : Nat} (h : Mine B C w v n) (x : Ext w w') : Mine B C w' v n := by
  obtain ⟨a, cap, hv, hn, hm, h0 | ⟨g, ha, hB, hC, hr⟩⟩ := h
  · exact ⟨a, cap, hv, hn, hm, .inl h0⟩
  · exact ⟨a, cap, hv, hn, hm, .inr ⟨g, ha, hB, hC, hr.ext x⟩⟩
theorem Mine.mono {B C B' C' : Nat} {w : World} {v : Value} {n : Nat} (h : Mine B C w v n) (hB' : B' ≤ B) (hC' : C ≤ C') : Mine B' C' w v n := by
  obtain ⟨a, cap, hv, hn, hm, h0 | ⟨g, ha, hB, hC, hr⟩⟩ := h
  · exact ⟨a, cap, hv, hn, hm, .inl h0⟩
  · exact ⟨a, cap, hv, hn, hm, .inr ⟨g, ha, by omega, by omega, hr⟩⟩
theorem Mine.set {B C : Nat} {w : World} {v : Value} {n : Nat} (h : Mine B C w v n) (g' i : Nat) (u : Value) : Mine B C (w.setCell ⟨g', i, none⟩ u) v n := by
  obtain ⟨a, cap, hv, hn, hm, h0 | ⟨g, ha, hB, hC, hr⟩⟩ := h
  · exact ⟨a, cap, hv, hn, hm, .inl h0⟩
  · exact ⟨a, cap, hv, hn, hm, .inr ⟨g, ha, hB, hC, hr.set g' i u⟩⟩
/-- A row owned from C on stays, whatever is written between B and C. -/
theorem OwnI.besides {k : IntKind} {e : TypeId} {B C : Nat} {w w' : World} {v : Value} {xs : List Nat} (h : OwnI k e C w v xs) (x : Besides B C w w') : OwnI k e C w' v xs := by
  rcases h with ⟨h1, h2 | ⟨g, cap, cur, hv, hg, hh, r⟩⟩
  · exact ⟨h1, .inl h2⟩
  · exact ⟨h1, .inr ⟨g, cap, cur, hv, hg, by rw [x.block g (.inr hg)]; exact hh, r⟩⟩
/-- An owned row that is not empty lies in memory. -/
theorem OwnI.there {k : IntKind} {e : TypeId} {B : Nat} {w : World} {v : Value} {xs : List Nat} (h : OwnI k e B w v xs) (hne : 0 < xs.length) : ∃ g cap, v = .slice (some ⟨g, 0, none⟩) xs.length cap ∧ B ≤ g ∧ xs.length ≤ cap ∧ cap ≤ maxLen := by
  rcases h with ⟨h1, ⟨rfl, h2⟩ | ⟨g, cap, cur, rfl, hg, hh, hn, hm, hs, ht⟩⟩
  · omega
  · exact ⟨g, cap, rfl, hg, hn, hm⟩
theorem OwnI.caps {k : IntKind} {e : TypeId} {B n cap : Nat} {a : Option Addr} {w : World} {xs : List Nat} (h : OwnI k e B w (.slice a n cap) xs) : xs.length ≤ cap ∧ cap ≤ maxLen := by
  obtain ⟨_, _, h1, h2, h3, _⟩ := h.rd.shape
  simp only [Value.slice.injEq] at h1
  obtain ⟨_, _, rfl⟩ := h1
  exact ⟨h2, h3⟩
/-- A row stays where its block stays. -/
theorem OwnI.same {k : IntKind} {e : TypeId} {B g n cap : Nat} {w w' : World} {xs : List Nat} (h : OwnI k e B w (.slice (some ⟨g, 0, none⟩) n cap) xs) (hs : w'.heap[g]? = w.heap[g]?) : OwnI k e B w' (.slice (some ⟨g, 0, none⟩) n cap) xs := by
  rcases h with ⟨h1, ⟨h2, _⟩ | ⟨g', cap', cur, hv, hg, hh, r⟩⟩
  · cases h2
  · simp only [Value.slice.injEq, Option.some.injEq, Addr.mk.injEq, and_true] at hv
    obtain ⟨rfl, _, rfl⟩ := hv
    have hn : n = xs.length := by assumption
    subst hn
    exact ⟨h1, .inr ⟨g, cap, cur, rfl, hg, by rw [hs]; exact hh, r⟩⟩
theorem Besides.ext {B g : Nat} {w w' : World} (h : Besides g (g + 1) w w') (hB : B ≤ g) : Below B w w' := Below.mono h.below hB
theorem Besides.at {g k : Nat} {w w' : World} (h : Besides g (g + 1) w w') (hk : k ≠ g) : w'.heap[k]? = w.heap[k]? := h.block k (by omega)
end Go.Att
