/- Blocks that hold one number; cells from a place on. -/
import Derived.Test.YtnbbhpihlcglgaaRowAll
namespace Go.Att
open Go.RowKit
theorem Rm.c3 {w : World} {b : Nat} (h : Rm w b 3) : ∃ x0 x1 x2, w.cell? ⟨b, 0, none⟩ = some x0 ∧ w.cell? ⟨b, 1, none⟩ = some x1 ∧ w.cell? ⟨b, 2, none⟩ = some x2 ∧ w.frozen? ⟨b, 0, none⟩ = false ∧ w.frozen? ⟨b, 1, none⟩ = false ∧ w.frozen? ⟨b, 2, none⟩ = false := by
  obtain ⟨x0, h0, g0⟩ := h.at 0 (by omega)
  obtain ⟨x1, h1, g1⟩ := h.at 1 (by omega)
  obtain ⟨x2, h2, g2⟩ := h.at 2 (by omega)
  exact ⟨x0, x1, x2, h0, h1, h2, g0, g1, g2⟩
theorem agg3_inj {x y z x' y' z' : Value} (h : Value.agg #[x, y, z] = .agg #[x', y', z']) : x = x' ∧ y = y' ∧ z = z' := by
  simpa only [Value.agg.injEq, Array.mk.injEq, List.cons.injEq, and_true] using h
theorem RdQ.op3 {w : World} {x y z : Value} {q : Rat} (h : RdQ w (.agg #[x, y, z]) q) : ∃ s a l c a' l' c', x = .bool s ∧ y = .slice a l c ∧ z = .slice a' l' c' := by
  obtain ⟨s, a, l, c, a', l', c', e, -⟩ := h.op
  obtain ⟨rfl, rfl, rfl⟩ := agg3_inj e
  exact ⟨_, _, _, _, _, _, _, rfl, rfl, rfl⟩
theorem RdP.op3 {w : World} {x y z : Value} {q : Rat} (h : RdP w (.agg #[x, y, z]) q) : ∃ s a l c a' l' c', x = .bool s ∧ y = .slice a l c ∧ z = .slice a' l' c' := by
  obtain ⟨s, a, l, c, a', l', c', e, -⟩ := h.op
  obtain ⟨rfl, rfl, rfl⟩ := agg3_inj e
  exact ⟨_, _, _, _, _, _, _, rfl, rfl, rfl⟩
theorem OwnD.fstQ {e : TypeId} {B : Nat} {w : World} {x y z x' y' z' : Value} {a b : Rat} (h : OwnD e B w (.agg #[x, y, z, x', y', z']) a b) : OwnQ e B w (.agg #[x, y, z]) a := by
  obtain ⟨n, d, m, c, he, h1, h2, -, -⟩ := h
  simp only [Value.agg.injEq, Array.mk.injEq, List.cons.injEq, and_true] at he
  obtain ⟨rfl, rfl, rfl, -, -, -⟩ := he
  exact ⟨_, _, rfl, h1, h2⟩
theorem OwnD.sndQ {e : TypeId} {B : Nat} {w : World} {x y z x' y' z' : Value} {a b : Rat} (h : OwnD e B w (.agg #[x, y, z, x', y', z']) a b) : OwnQ e B w (.agg #[x', y', z']) b := by
  obtain ⟨n, d, m, c, he, -, -, h1, h2⟩ := h
  simp only [Value.agg.injEq, Array.mk.injEq, List.cons.injEq, and_true] at he
  obtain ⟨-, -, -, rfl, rfl, rfl⟩ := he
  exact ⟨_, _, rfl, h1, h2⟩
theorem RdD.fst3 {w : World} {x0 x1 x2 x3 x4 x5 : Value} {a b : Rat} (h : RdD w (.agg #[x0, x1, x2, x3, x4, x5]) a b) : RdQ w (.agg #[x0, x1, x2]) a := by
  obtain ⟨_, _, _, _, _, _, he, h1, -⟩ := h
  simp only [Value.agg.injEq, Array.mk.injEq, List.cons.injEq, and_true] at he
  obtain ⟨rfl, rfl, rfl, -, -, -⟩ := he
  exact h1
theorem RdD.snd3 {w : World} {x0 x1 x2 x3 x4 x5 : Value} {a b : Rat} (h : RdD w (.agg #[x0, x1, x2, x3, x4, x5]) a b) : RdQ w (.agg #[x3, x4, x5]) b := by
  obtain ⟨_, _, _, _, _, _, he, -, h1⟩ := h
  simp only [Value.agg.injEq, Array.mk.injEq, List.cons.injEq, and_true] at he
  obtain ⟨-, -, -, rfl, rfl, rfl⟩ := he
  exact h1
theorem RdE.fst3 {w : World} {x0 x1 x2 x3 x4 x5 : Value} {a b : Rat} (h : RdE w (.agg #[x0, x1, x2, x3, x4, x5]) a b) : RdP w (.agg #[x0, x1, x2]) a := by
  obtain ⟨_, _, _, _, _, _, he, h1, -⟩ := h
  simp only [Value.agg.injEq, Array.mk.injEq, List.cons.injEq, and_true] at he
  obtain ⟨rfl, rfl, rfl, -, -, -⟩ := he
  exact h1
theorem RdE.snd3 {w : World} {x0 x1 x2 x3 x4 x5 : Value} {a b : Rat} (h : RdE w (.agg #[x0, x1, x2, x3, x4, x5]) a b) : RdP w (.agg #[x3, x4, x5]) b := by
  obtain ⟨_, _, _, _, _, _, he, -, h1⟩ := h
  simp only [Value.agg.injEq, Array.mk.injEq, List.cons.injEq, and_true] at he
  obtain ⟨-, -, -, rfl, rfl, rfl⟩ := he
  exact h1
theorem put3_sz (w : World) (c : Nat) (x y z : Value) : (put3 w c x y z).heap.size = w.heap.size := by simp [put3, World.setCell]
/-- Cells from a place on. -/
def Bo (w : World) (b o : Nat) (cs : List Value) : Prop := ∀ j v, cs[j]? = some v → w.cell? ⟨b, o + j, none⟩ = some v
theorem Bo.ext {w w' : World} {b o : Nat} {cs : List Value} (h : Bo w b o cs) (e : Ext w w') : Bo w' b o cs := fun j v hv => e.cell (h j v hv)
theorem Bo.of {w : World} {b o n : Nat} {cs : List Value} (h : ∀ j, j < n → w.cell? ⟨b, o + j, none⟩ = cs[j]?) (hn : cs.length = n := by rfl) : Bo w b o cs := fun j v hv => by
  rw [h j (by have := (List.getElem?_eq_some_iff.1 hv).1; omega), hv]
theorem Bo.c6 {w : World} {b o : Nat} {x0 x1 x2 x3 x4 x5 : Value} {l : List Value} (h : Bo w b o (x0 :: x1 :: x2 :: x3 :: x4 :: x5 :: l)) : w.cell? ⟨b, o, none⟩ = some x0 ∧ w.cell? ⟨b, o + 1, none⟩ = some x1 ∧ w.cell? ⟨b, o + 2, none⟩ = some x2 ∧ w.cell? ⟨b, o + 3, none⟩ = some x3 ∧ w.cell? ⟨b, o + 4, none⟩ = some x4 ∧ w.cell? ⟨b, o + 5, none⟩ = some x5 :=
  ⟨h 0 _ rfl, h 1 _ rfl, h 2 _ rfl, h 3 _ rfl, h 4 _ rfl, h 5 _ rfl⟩
theorem Bo.putL {w : World} {b o : Nat} {cs : List Value} (h : Bo w b o cs) {c : Nat} (hne : b ≠ c) (i : Nat) (l : List Value) : Bo (Att.putL w c i l) b o cs := fun j v hv => by
  rw [World.cell?_of_block (putL_block c hne l w i)]
  exact h j v hv
theorem Bo.lt {w : World} {b o : Nat} {x : Value} {cs : List Value} (h : Bo w b o (x :: cs)) : b < w.heap.size := World.block_lt_of_cell? w _ (h 0 x rfl)
/-- Block b, cells of type t, holds the number q, whose lists are of type e. -/
def Bq (e t : TypeId) (w : World) (b : Nat) (q : Rat) : Prop := ∃ x y z, Bx w b [x, y, z] ∧ Rt w b 3 t ∧ OwnQ e 0 w (.agg #[x, y, z]) q
section
variable {e t : TypeId}
theorem Bq.ext {w w' : World} {b : Nat} {q : Rat} (h : Bq e t w b q) (x : Ext w w') : Bq e t w' b q := by
  obtain ⟨_, _, _, h1, h2, h3⟩ := h
  exact ⟨_, _, _, h1.ext x, h2.ext x, h3.ext x⟩
theorem Bq.put {w : World} {b c : Nat} {q : Rat} (h : Bq e t w b q) {t' : TypeId} (hc : Rt w c 3 t') (ht : e ≠ t') (hne : b ≠ c) (x y z : Value) : Bq e t (put3 w c x y z) b q := by
  obtain ⟨_, _, _, h1, h2, h3⟩ := h
  exact ⟨_, _, _, h1.put3 hne x y z, h2.putL hne 0 [x, y, z], h3.putT hc ht 0 [x, y, z]⟩
theorem Bq.set {w : World} {c : Nat} {q : Rat} (hc : Rt w c 3 t) (ht : e ≠ t) {x y z : Value} (h : OwnQ e 0 w (.agg #[x, y, z]) q) : Bq e t (put3 w c x y z) c q :=
  ⟨_, _, _, (hc.putL_at [x, y, z] rfl).1, (hc.putL_at [x, y, z] rfl).2, h.putT hc ht 0 [x, y, z]⟩
theorem Bq.new {w : World} {x y z : Value} {q : Rat} (h : OwnQ e 0 w (.agg #[x, y, z]) q) : Bq e t (w.alloc (.cells #[x, y, z] t)) w.heap.size q :=
  ⟨_, _, _, Bx.new w [x, y, z] _, Rt.new w [x, y, z] _, h.ext (Ext.alloc _ _)⟩
theorem Bq.rt {w : World} {b : Nat} {q : Rat} (h : Bq e t w b q) : Rt w b 3 t := by
  obtain ⟨_, _, _, -, h, -⟩ := h
  exact h
theorem Bq.lt {w : World} {b : Nat} {q : Rat} (h : Bq e t w b q) : b < w.heap.size := h.rt.lt
theorem Bq.op {w : World} {b : Nat} {q : Rat} (h : Bq e t w b q) : ∃ s a l c a' l' c', Hid (Bx w b [.bool s, .slice a l c, .slice a' l' c']) ∧ Hid (Rt w b 3 t) ∧ Hid (OwnQ e 0 w (.agg #[.bool s, .slice a l c, .slice a' l' c']) q) := by
  obtain ⟨x, y, z, h1, h2, h3⟩ := h
  obtain ⟨_, _, _, _, _, _, _, rfl, rfl, rfl⟩ := RdQ.op3 h3.rd
  exact ⟨_, _, _, _, _, _, _, h1, h2, h3⟩
end
/-- .. a number of the document's. -/
def Bp (e t : TypeId) (w : World) (b : Nat) (q : Rat) : Prop := ∃ x y z, Bx w b [x, y, z] ∧ Rt w b 3 t ∧ OwnP e 0 w (.agg #[x, y, z]) q
section
variable {e t : TypeId}
theorem Bp.ext {w w' : World} {b : Nat} {q : Rat} (h : Bp e t w b q) (x : Ext w w') : Bp e t w' b q := by
  obtain ⟨_, _, _, h1, h2, h3⟩ := h
  exact ⟨_, _, _, h1.ext x, h2.ext x, h3.ext x⟩
theorem Bp.set {w : World} {c : Nat} {q : Rat} (hc : Rt w c 3 t) (ht : e ≠ t) {x y z : Value} (h : OwnP e 0 w (.agg #[x, y, z]) q) : Bp e t (put3 w c x y z) c q :=
  ⟨_, _, _, (hc.putL_at [x, y, z] rfl).1, (hc.putL_at [x, y, z] rfl).2, h.putT hc ht 0 [x, y, z]⟩
theorem Bp.new {w : World} {x y z : Value} {q : Rat} (h : OwnP e 0 w (.agg #[x, y, z]) q) : Bp e t (w.alloc (.cells #[x, y, z] t)) w.heap.size q :=
  ⟨_, _, _, Bx.new w [x, y, z] _, Rt.new w [x, y, z] _, h.ext (Ext.alloc _ _)⟩
theorem Bp.rt {w : World} {b : Nat} {q : Rat} (h : Bp e t w b q) : Rt w b 3 t := by
  obtain ⟨_, _, _, -, h, -⟩ := h
  exact h
theorem Bp.lt {w : World} {b : Nat} {q : Rat} (h : Bp e t w b q) : b < w.heap.size := h.rt.lt
theorem Bp.op {w : World} {b : Nat} {q : Rat} (h : Bp e t w b q) : ∃ s a l c a' l' c', Hid (Bx w b [.bool s, .slice a l c, .slice a' l' c']) ∧ Hid (Rt w b 3 t) ∧ Hid (OwnP e 0 w (.agg #[.bool s, .slice a l c, .slice a' l' c']) q) := by
  obtain ⟨x, y, z, h1, h2, h3⟩ := h
  obtain ⟨_, _, _, _, _, _, _, rfl, rfl, rfl⟩ := RdP.op3 h3.rd
  exact ⟨_, _, _, _, _, _, _, h1, h2, h3⟩
end
end Go.Att
