/- Blocks of any number of cells: reading, room, storing. Nothing here names the program. -/
import Derived.Test.YtgajpmcjjefghaaGreatDoorRatPlain
import Derived.Lib.SmallJoins
namespace Go.Att
open Go.RowKit

/-- Block b reads as these cells. -/
def Bx (w : World) (b : Nat) (cs : List Value) : Prop := ∀ i v, cs[i]? = some v → w.cell? ⟨b, i, none⟩ = some v
theorem Bx.ext {w w' : World} {b : Nat} {cs : List Value} (h : Bx w b cs) (e : Ext w w') : Bx w' b cs := fun i v hv => e.cell (h i v hv)
theorem Bx.new (w : World) (cs : List Value) (t : TypeId) : Bx (w.alloc (.cells cs.toArray t)) w.heap.size cs := fun i v hv => by
  have h : (w.alloc (.cells cs.toArray t)).heap[w.heap.size]? = some (.cells cs.toArray t (0, 0)) := by show (w.heap.push _)[w.heap.size]? = _; simp
  rw [cell_of_row _ _ _ _ t (0, 0) h]
  simpa using hv
theorem Bx.c1 {w : World} {b : Nat} {x0 : Value} {l : List Value} (h : Bx w b (x0 :: l)) : w.cell? ⟨b, 0, none⟩ = some x0 := h 0 _ rfl
theorem Bx.c2 {w : World} {b : Nat} {x0 x1 : Value} {l : List Value} (h : Bx w b (x0 :: x1 :: l)) : w.cell? ⟨b, 0, none⟩ = some x0 ∧ w.cell? ⟨b, 1, none⟩ = some x1 := ⟨h 0 _ rfl, h 1 _ rfl⟩
theorem Bx.c3 {w : World} {b : Nat} {x0 x1 x2 : Value} {l : List Value} (h : Bx w b (x0 :: x1 :: x2 :: l)) : w.cell? ⟨b, 0, none⟩ = some x0 ∧ w.cell? ⟨b, 1, none⟩ = some x1 ∧ w.cell? ⟨b, 2, none⟩ = some x2 := ⟨h 0 _ rfl, h 1 _ rfl, h 2 _ rfl⟩
theorem Bx.c4 {w : World} {b : Nat} {x0 x1 x2 x3 : Value} {l : List Value} (h : Bx w b (x0 :: x1 :: x2 :: x3 :: l)) : w.cell? ⟨b, 0, none⟩ = some x0 ∧ w.cell? ⟨b, 1, none⟩ = some x1 ∧ w.cell? ⟨b, 2, none⟩ = some x2 ∧ w.cell? ⟨b, 3, none⟩ = some x3 := ⟨h 0 _ rfl, h 1 _ rfl, h 2 _ rfl, h 3 _ rfl⟩
theorem Bx.c6 {w : World} {b : Nat} {x0 x1 x2 x3 x4 x5 : Value} {l : List Value} (h : Bx w b (x0 :: x1 :: x2 :: x3 :: x4 :: x5 :: l)) : w.cell? ⟨b, 0, none⟩ = some x0 ∧ w.cell? ⟨b, 1, none⟩ = some x1 ∧ w.cell? ⟨b, 2, none⟩ = some x2 ∧ w.cell? ⟨b, 3, none⟩ = some x3 ∧ w.cell? ⟨b, 4, none⟩ = some x4 ∧ w.cell? ⟨b, 5, none⟩ = some x5 :=
  ⟨h 0 _ rfl, h 1 _ rfl, h 2 _ rfl, h 3 _ rfl, h 4 _ rfl, h 5 _ rfl⟩
theorem Bx.of3 {w : World} {b : Nat} {x y z : Value} (h : Box3 w b x y z) : Bx w b [x, y, z] := fun i v hv => by
  match i, hv with
  | 0, hv => simp at hv; subst hv; exact h.1
  | 1, hv => simp at hv; subst hv; exact h.2.1
  | 2, hv => simp at hv; subst hv; exact h.2.2
  | i + 3, hv => simp at hv

/-- Block b has room for n cells. -/
def Rm (w : World) (b n : Nat) : Prop := ∃ (cs : Array Value) (t : TypeId), cs.size = n ∧ w.heap[b]? = some (.cells cs t (0, 0))
theorem Rm.ext {w w' : World} {b n : Nat} (h : Rm w b n) (e : Ext w w') : Rm w' b n := by
  obtain ⟨cs, t, hn, h⟩ := h
  exact ⟨cs, t, hn, by rw [e.block b (Array.getElem?_eq_some_iff.1 h).1]; exact h⟩
theorem Rm.new (w : World) (cs : List Value) (t : TypeId) : Rm (w.alloc (.cells cs.toArray t)) w.heap.size cs.length := ⟨cs.toArray, t, by simp, by show (w.heap.push _)[w.heap.size]? = _; simp⟩
theorem Rm.lt {w : World} {b n : Nat} (h : Rm w b n) : b < w.heap.size := by
  obtain ⟨_, _, _, h⟩ := h
  exact (Array.getElem?_eq_some_iff.1 h).1
theorem Rm.at {w : World} {b n : Nat} (h : Rm w b n) (i : Nat) (hi : i < n) : ∃ v, w.cell? ⟨b, i, none⟩ = some v ∧ w.frozen? ⟨b, i, none⟩ = false := by
  obtain ⟨cs, t, hn, h⟩ := h
  exact ⟨cs[i]'(by omega), by rw [cell_of_row w b _ _ t (0, 0) h]; simp [hn, hi], frozen_of_row w b i _ t h⟩
theorem Rm.c6 {w : World} {b : Nat} (h : Rm w b 6) : ∃ x0 x1 x2 x3 x4 x5, w.cell? ⟨b, 0, none⟩ = some x0 ∧ w.cell? ⟨b, 1, none⟩ = some x1 ∧ w.cell? ⟨b, 2, none⟩ = some x2 ∧ w.cell? ⟨b, 3, none⟩ = some x3 ∧ w.cell? ⟨b, 4, none⟩ = some x4 ∧ w.cell? ⟨b, 5, none⟩ = some x5 ∧
    w.frozen? ⟨b, 0, none⟩ = false ∧ w.frozen? ⟨b, 1, none⟩ = false ∧ w.frozen? ⟨b, 2, none⟩ = false ∧ w.frozen? ⟨b, 3, none⟩ = false ∧ w.frozen? ⟨b, 4, none⟩ = false ∧ w.frozen? ⟨b, 5, none⟩ = false := by
  obtain ⟨x0, h0, g0⟩ := h.at 0 (by omega)
  obtain ⟨x1, h1, g1⟩ := h.at 1 (by omega)
  obtain ⟨x2, h2, g2⟩ := h.at 2 (by omega)
  obtain ⟨x3, h3, g3⟩ := h.at 3 (by omega)
  obtain ⟨x4, h4, g4⟩ := h.at 4 (by omega)
  obtain ⟨x5, h5, g5⟩ := h.at 5 (by omega)
  exact ⟨x0, x1, x2, x3, x4, x5, h0, h1, h2, h3, h4, h5, g0, g1, g2, g3, g4, g5⟩

theorem Rm.room3 {w : World} {b : Nat} (h : Rm w b 3) : Room3 w b := by
  obtain ⟨cs, t, hn, h⟩ := h
  obtain ⟨x, y, z, rfl⟩ := Go.Joins.array3 hn
  exact ⟨x, y, z, t, h⟩
theorem Room3.rm {w : World} {b : Nat} (h : Room3 w b) : Rm w b 3 := by
  obtain ⟨x, y, z, t, h⟩ := h
  exact ⟨_, t, rfl, h⟩
/-- These cells are written into block c from place i on. -/
def putL (w : World) (c : Nat) (i : Nat) : List Value → World
  | [] => w
  | v :: l => putL (w.setCell ⟨c, i, none⟩ v) c (i + 1) l
theorem putL_block (c : Nat) {k : Nat} (hk : k ≠ c) : ∀ (l : List Value) (w : World) (i : Nat), (putL w c i l).heap[k]? = w.heap[k]?
  | [], _, _ => rfl
  | v :: l, w, i => by rw [putL, putL_block c hk l]; exact Below.heap_setCell _ _ _ _ hk
theorem putL_below {B c : Nat} (hc : B ≤ c) {a : World} : ∀ (l : List Value) {w : World} (i : Nat), Below B a w → Below B a (putL w c i l)
  | [], _, _, h => h
  | v :: l, w, i, h => by rw [putL]; exact putL_below hc l (i + 1) (h.setCell hc v)
theorem Bx.putL {w : World} {b : Nat} {cs : List Value} (h : Bx w b cs) {c : Nat} (hne : b ≠ c) (i : Nat) (l : List Value) : Bx (putL w c i l) b cs := fun j v hv => by
  rw [World.cell?_of_block (putL_block c hne l w i)]
  exact h j v hv
theorem Rm.putL {w : World} {b n : Nat} (h : Rm w b n) {c : Nat} (hne : b ≠ c) (i : Nat) (l : List Value) : Rm (putL w c i l) b n := by
  obtain ⟨cs, t, hn, h⟩ := h
  exact ⟨cs, t, hn, by rw [putL_block c hne]; exact h⟩
theorem putL_row {c : Nat} {t : TypeId} : ∀ (l : List Value) {w : World} {cs : Array Value} (i : Nat), w.heap[c]? = some (.cells cs t (0, 0)) → i + l.length ≤ cs.size →
    ∃ cs' : Array Value, (Att.putL w c i l).heap[c]? = some (.cells cs' t (0, 0)) ∧ cs'.size = cs.size ∧ (∀ j, j < i → cs'[j]? = cs[j]?) ∧ ∀ j v, l[j]? = some v → cs'[i + j]? = some v
  | [], w, cs, i, h, _ => ⟨cs, h, rfl, fun _ _ => rfl, fun j v hv => by simp at hv⟩
  | v :: l, w, cs, i, h, hl => by
    have h0 := heap_setCell_same w c i _ t v h
    simp at hl
    obtain ⟨cs', h1, h2, h3, h4⟩ := putL_row l (i + 1) h0 (by simp; omega)
    refine ⟨cs', h1, by simpa using h2, fun j hj => by rw [h3 j (by omega), Array.getElem?_setIfInBounds_ne (by omega)], fun j u hu => ?_⟩
    cases j with
    | zero =>
      simp at hu
      subst hu
      rw [Nat.add_zero, h3 i (by omega), Array.getElem?_setIfInBounds_self_of_lt (by omega)]
    | succ j =>
      have := h4 j u (by simpa using hu)
      rw [show i + (j + 1) = i + 1 + j by omega]
      exact this
theorem Bx.putL_at {w : World} {c n : Nat} (h : Rm w c n) (l : List Value) (hl : l.length = n) : Bx (Att.putL w c 0 l) c l ∧ Rm (Att.putL w c 0 l) c n := by
  obtain ⟨cs, t, hn, h⟩ := h
  obtain ⟨cs', h1, h2, -, h4⟩ := putL_row l 0 h (by omega)
  refine ⟨fun j v hv => ?_, cs', t, by omega, h1⟩
  rw [cell_of_row _ c _ _ t (0, 0) h1, ← Nat.zero_add j]
  exact h4 j v hv
theorem owns_putL {w : World} {B c : Nat} {e : TypeId} {size : Nat} {v : Value} {n : Nat} {xs : List Value} (o : w.ownsRow B e size v n xs) {w' : World} (x : Ext w w') (hc : c < B ∨ w.heap.size ≤ c) (i : Nat) (l : List Value) : (putL w' c i l).ownsRow B e size v n xs := by
  rcases o with ⟨h1, h2 | ⟨g, cap, cur, hv, hg, hh, r⟩⟩
  · exact ⟨h1, .inl h2⟩
  · have hl := (Array.getElem?_eq_some_iff.1 hh).1
    exact ⟨h1, .inr ⟨g, cap, cur, hv, hg, by rw [putL_block _ (by omega), x.block g hl]; exact hh, r⟩⟩
theorem OwnL.putL {e : TypeId} {B c : Nat} {w w' : World} {v : Value} {xs : List Nat} (h : OwnL e B w v xs) (x : Ext w w') (hc : c < B ∨ w.heap.size ≤ c) (i : Nat) (l : List Value) : OwnL e B (putL w' c i l) v xs := ⟨owns_putL h.1 x hc i l, h.2⟩

theorem putL3 (w : World) (c : Nat) (x y z : Value) : put3 w c x y z = putL w c 0 [x, y, z] := rfl
theorem Bx.put3 {w : World} {b : Nat} {cs : List Value} (h : Bx w b cs) {c : Nat} (hne : b ≠ c) (x y z : Value) : Bx (put3 w c x y z) b cs := h.putL hne 0 [x, y, z]
/-- Six cells are written. -/
def put6 (w : World) (c : Nat) (x y z x' y' z' : Value) : World :=
  (((((w.setCell ⟨c, 0, none⟩ x).setCell ⟨c, 1, none⟩ y).setCell ⟨c, 2, none⟩ z).setCell ⟨c, 3, none⟩ x').setCell ⟨c, 4, none⟩ y').setCell ⟨c, 5, none⟩ z'
theorem putL6 (w : World) (c : Nat) (x y z x' y' z' : Value) : put6 w c x y z x' y' z' = putL w c 0 [x, y, z, x', y', z'] := rfl
theorem put6_below {B c : Nat} {a w : World} (h : Below B a w) (hc : B ≤ c) (x y z x' y' z' : Value) : Below B a (put6 w c x y z x' y' z') := putL_below hc [x, y, z, x', y', z'] 0 h
theorem Bx.put6 {w : World} {b : Nat} {cs : List Value} (h : Bx w b cs) {c : Nat} (hne : b ≠ c) (x y z x' y' z' : Value) : Bx (put6 w c x y z x' y' z') b cs := h.putL hne 0 [x, y, z, x', y', z']
theorem Box3.put6 {w : World} {b : Nat} {u v t : Value} (h : Box3 w b u v t) {c : Nat} (hne : b ≠ c) (x y z x' y' z' : Value) : Box3 (put6 w c x y z x' y' z') b u v t := (Bx.put6 (Bx.of3 h) hne x y z x' y' z').c3
theorem Rm.put6 {w : World} {b n : Nat} (h : Rm w b n) {c : Nat} (hne : b ≠ c) (x y z x' y' z' : Value) : Rm (put6 w c x y z x' y' z') b n := h.putL hne 0 [x, y, z, x', y', z']
theorem OwnL.put6 {e : TypeId} {B c : Nat} {w w' : World} {v : Value} {xs : List Nat} (h : OwnL e B w v xs) (k : Ext w w') (hc : c < B ∨ w.heap.size ≤ c) (x y z x' y' z' : Value) : OwnL e B (put6 w' c x y z x' y' z') v xs := h.putL k hc 0 [x, y, z, x', y', z']
theorem OwnB.put6 {e : TypeId} {B c : Nat} {w w' : World} {v : Value} {xs : List Bool} (h : OwnB e B w v xs) (k : Ext w w') (hc : c < B ∨ w.heap.size ≤ c) (x y z x' y' z' : Value) : OwnB e B (Att.put6 w' c x y z x' y' z') v xs := owns_putL h k hc 0 [x, y, z, x', y', z']
theorem OwnB.put3 {e : TypeId} {B c : Nat} {w w' : World} {v : Value} {xs : List Bool} (h : OwnB e B w v xs) (k : Ext w w') (hc : c < B ∨ w.heap.size ≤ c) (x y z : Value) : OwnB e B (Att.put3 w' c x y z) v xs := owns_putL h k hc 0 [x, y, z]

/-! ### The blocks that a function lays -/
theorem bx1 (w : World) (l : List Value) (t : TypeId) : ∃ W, W = w.alloc (.cells l.toArray t) ∧ Ext w W ∧ Bx W w.heap.size l ∧ Rm W w.heap.size l.length ∧ W.heap.size = w.heap.size + 1 :=
  ⟨_, rfl, Ext.alloc _ _, Bx.new _ _ _, Rm.new _ _ _, by simp⟩
theorem bx2 (w : World) (l m : List Value) (t t' : TypeId) : ∃ W, W = (w.alloc (.cells l.toArray t)).alloc (.cells m.toArray t') ∧ Ext w W ∧ Bx W w.heap.size l ∧ Bx W (w.heap.size + 1) m ∧ Rm W w.heap.size l.length ∧ Rm W (w.heap.size + 1) m.length ∧ W.heap.size = w.heap.size + 2 := by
  obtain ⟨W, hW, e, b, r, s⟩ := bx1 w l t
  obtain ⟨V, hV, e', b', r', s'⟩ := bx1 W m t'
  rw [s] at b' r' s'
  exact ⟨V, by rw [hV, hW], e.trans e', b.ext e', b', r.ext e', r', s'⟩
theorem bx3 (w : World) (l m k : List Value) (t t' t'' : TypeId) : ∃ W, W = ((w.alloc (.cells l.toArray t)).alloc (.cells m.toArray t')).alloc (.cells k.toArray t'') ∧ Ext w W ∧ Bx W w.heap.size l ∧ Bx W (w.heap.size + 1) m ∧ Bx W (w.heap.size + 1 + 1) k ∧
    Rm W w.heap.size l.length ∧ Rm W (w.heap.size + 1) m.length ∧ Rm W (w.heap.size + 1 + 1) k.length ∧ W.heap.size = w.heap.size + 3 := by
  obtain ⟨W, hW, e, b, b2, r, r2, s⟩ := bx2 w l m t t'
  obtain ⟨V, hV, e', b', r', s'⟩ := bx1 W k t''
  rw [s] at b' r' s'
  exact ⟨V, by rw [hV, hW], e.trans e', b.ext e', b2.ext e', b', r.ext e', r2.ext e', r', s'⟩
theorem bx4 (w : World) (l m k j : List Value) (t t' t'' t3 : TypeId) : ∃ W, W = (((w.alloc (.cells l.toArray t)).alloc (.cells m.toArray t')).alloc (.cells k.toArray t'')).alloc (.cells j.toArray t3) ∧ Ext w W ∧ Bx W w.heap.size l ∧ Bx W (w.heap.size + 1) m ∧ Bx W (w.heap.size + 1 + 1) k ∧ Bx W (w.heap.size + 1 + 1 + 1) j ∧
    Rm W w.heap.size l.length ∧ Rm W (w.heap.size + 1) m.length ∧ Rm W (w.heap.size + 1 + 1) k.length ∧ Rm W (w.heap.size + 1 + 1 + 1) j.length ∧ W.heap.size = w.heap.size + 4 := by
  obtain ⟨W, hW, e, b, b2, b3, r, r2, r3, s⟩ := bx3 w l m k t t' t''
  obtain ⟨V, hV, e', b', r', s'⟩ := bx1 W j t3
  rw [s] at b' r' s'
  exact ⟨V, by rw [hV, hW], e.trans e', b.ext e', b2.ext e', b3.ext e', b', r.ext e', r2.ext e', r3.ext e', r', s'⟩

/-! ### Two rational numbers side by side -/
/-- v is six cells: the program's forms of a and b. -/
def RdD (w : World) (v : Value) (a b : Rat) : Prop := ∃ x y z x' y' z', v = .agg #[x, y, z, x', y', z'] ∧ RdQ w (.agg #[x, y, z]) a ∧ RdQ w (.agg #[x', y', z']) b
theorem rdq_zero (w : World) : RdQ w (.agg #[.bool false, .slice none 0 0, .slice none 0 0]) 0 := by
  refine ⟨.slice none 0 0, .slice none 0 0, rfl, ?_, ?_⟩
  · have : limbs (0 : Rat).num.natAbs = [] := limbs_zero
    rw [this]
    exact ⟨RdV.nil _ _, Fit.nil _⟩
  · have : dens (0 : Rat).den = [] := rfl
    rw [this]
    exact ⟨RdV.nil _ _, Fit.nil _⟩
/-- .. the document's. -/
def RdE (w : World) (v : Value) (a b : Rat) : Prop := ∃ x y z x' y' z', v = .agg #[x, y, z, x', y', z'] ∧ RdP w (.agg #[x, y, z]) a ∧ RdP w (.agg #[x', y', z']) b
theorem RdD.ext {w w' : World} {v : Value} {a b : Rat} (h : RdD w v a b) (e : Ext w w') : RdD w' v a b := by
  obtain ⟨x, y, z, x', y', z', rfl, h1, h2⟩ := h
  exact ⟨_, _, _, _, _, _, rfl, h1.ext e, h2.ext e⟩
theorem RdE.ext {w w' : World} {v : Value} {a b : Rat} (h : RdE w v a b) (e : Ext w w') : RdE w' v a b := by
  obtain ⟨x, y, z, x', y', z', rfl, h1, h2⟩ := h
  exact ⟨_, _, _, _, _, _, rfl, h1.ext e, h2.ext e⟩
/-- .. in new memory. -/
def OwnD (e : TypeId) (B : Nat) (w : World) (v : Value) (a b : Rat) : Prop := ∃ n d m c, v = .agg #[.bool (decide (a.num < 0)), n, d, .bool (decide (b.num < 0)), m, c] ∧ OwnL e B w n (limbs a.num.natAbs) ∧ OwnL e B w d (dens a.den) ∧ OwnL e B w m (limbs b.num.natAbs) ∧ OwnL e B w c (dens b.den)
theorem OwnD.rd {e : TypeId} {B : Nat} {w : World} {v : Value} {a b : Rat} (h : OwnD e B w v a b) : RdD w v a b := by
  obtain ⟨n, d, m, c, rfl, h1, h2, h3, h4⟩ := h
  exact ⟨_, _, _, _, _, _, rfl, ⟨_, _, rfl, h1.rd, h2.rd⟩, ⟨_, _, rfl, h3.rd, h4.rd⟩⟩
/-- As it comes in. -/
def RdND (w : World) (v : Value) (s : Bool) (xs ys : List Nat) (s' : Bool) (xs' ys' : List Nat) : Prop := ∃ x y z x' y' z', v = .agg #[x, y, z, x', y', z'] ∧ RdN w (.agg #[x, y, z]) s xs ys ∧ RdN w (.agg #[x', y', z']) s' xs' ys'
theorem RdND.ext {w w' : World} {v : Value} {s s' : Bool} {xs ys xs' ys' : List Nat} (h : RdND w v s xs ys s' xs' ys') (e : Ext w w') : RdND w' v s xs ys s' xs' ys' := by
  obtain ⟨x, y, z, x', y', z', rfl, h1, h2⟩ := h
  exact ⟨_, _, _, _, _, _, rfl, h1.ext e, h2.ext e⟩
end Go.Att
