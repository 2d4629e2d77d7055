/- Lists in memory: reading them, owning them, what a call leaves. Nothing here names the program. -/
import Derived.WalkKit
import Derived.Lib.Hide
namespace Go.Att
open Go.RowKit

/-! ### What a call leaves of old memory: all of it -/
abbrev Ext (w w' : World) : Prop := Below w.heap.size w w'
theorem Ext.refl (w : World) : Ext w w := Below.refl _ _
theorem Ext.trans {a b c : World} (h : Ext a b) (k : Ext b c) : Ext a c := Below.trans h (Below.mono k h.size)
theorem Ext.to {B : Nat} {a b c : World} (h : Below B a b) (hB : B ≤ b.heap.size) (k : Ext b c) : Below B a c := h.trans (k.mono hB)
theorem Ext.alloc (w : World) (o : Obj) : Ext w (w.alloc o) := (Below.refl _ _).alloc (Nat.le_refl _) o
theorem Ext.grown {w w' : World} (h : w.grownBy w' none) : Ext w w' := (Below.refl _ _).grown h (Nat.le_refl _) (fun k h => by cases h)
theorem Ext.lt {w w' : World} (h : Ext w w') {b : Nat} (hb : b < w.heap.size) : b < w'.heap.size := Nat.lt_of_lt_of_le hb h.size
theorem Ext.cell {w w' : World} (h : Ext w w') {a : Addr} {v : Value} (hc : w.cell? a = some v) : w'.cell? a = some v :=
  (Below.cell h (World.block_lt_of_cell? w a hc)).trans hc
theorem Ext.owns {w w' : World} (h : Ext w w') {B : Nat} {e : TypeId} {size : Nat} {v : Value} {n : Nat} {xs : List Value} (o : w.ownsRow B e size v n xs) : w'.ownsRow B e size v n xs := by
  obtain ⟨h1, h2⟩ := o
  refine ⟨h1, ?_⟩
  rcases h2 with h2 | ⟨g, cap, cur, hv, hg, hh, r⟩
  · exact .inl h2
  · exact .inr ⟨g, cap, cur, hv, hg, by rw [h.block g (Array.getElem?_eq_some_iff.1 hh).1]; exact hh, r⟩

/-- A contract proved towards a post that the walk cannot look into. -/
theorem via {P : Program} {f : FuncId} {args : Array Value} {w : World} {R : Ending → World → Prop}
    (h : ∀ R' : Ending → World → Prop, Hid (∀ e w', R e w' → R' e w') → Calls P f args w R') : Calls P f args w R := h R (fun _ _ h => h)

/-- The call returns a value and leaves old memory as it is. -/
def Gives (w : World) (R : Value → World → Prop) : Ending → World → Prop := fun e w' => ∃ v, e = .returned v ∧ Below w.heap.size w w' ∧ R v w'
theorem Gives.mk {w w' : World} {R : Value → World → Prop} {v : Value} (h : Below w.heap.size w w') (r : R v w') : Gives w R (.returned v) w' := ⟨v, rfl, h, r⟩

/-! ### Reading a slice, cell by cell -/
/-- Slice value v of n elements ('size' cells each) reads as these cells. -/
def RdV (w : World) (v : Value) (size n : Nat) (cells : List Value) : Prop :=
  cells.length = n * size ∧ ∃ a cap, v = .slice a n cap ∧ n ≤ cap ∧ cap ≤ maxLen ∧ (a = none → cap = 0) ∧
    ∀ i, i < cells.length → ∃ b off, a = some ⟨b, off, none⟩ ∧ w.cell? ⟨b, off + i, none⟩ = cells[i]?

theorem RdV.ext {w w' : World} {v : Value} {size n : Nat} {cells : List Value} (h : RdV w v size n cells) (e : Ext w w') : RdV w' v size n cells := by
  obtain ⟨h0, a, cap, rfl, h1, h2, h3, h5⟩ := h
  refine ⟨h0, a, cap, rfl, h1, h2, h3, fun i hi => ?_⟩
  obtain ⟨b, off, ha, hc⟩ := h5 i hi
  refine ⟨b, off, ha, ?_⟩
  rw [List.getElem?_eq_getElem hi] at hc ⊢
  exact e.cell hc

theorem RdV.nil (w : World) (size : Nat) : RdV w (.slice none 0 0) size 0 [] :=
  ⟨by simp, none, 0, rfl, Nat.le_refl _, Nat.zero_le _, fun _ => rfl, fun i hi => by simp at hi⟩

theorem RdV.of_owns {w : World} {B : Nat} {e : TypeId} {size : Nat} {v : Value} {n : Nat} {xs : List Value} (o : w.ownsRow B e size v n xs) : RdV w v size n xs := by
  rcases o with ⟨h1, ⟨rfl, rfl⟩ | ⟨g, cap, cur, rfl, hg, hh, hn, hm, hs, ht⟩⟩
  · obtain rfl : xs = [] := List.eq_nil_of_length_eq_zero (by simpa using h1)
    exact RdV.nil w size
  · refine ⟨h1, some ⟨g, 0, none⟩, cap, rfl, hn, hm, (fun h => by cases h), fun i hi => ⟨g, 0, rfl, ?_⟩⟩
    have ho : w.ownsRow B e size (.slice (some ⟨g, 0, none⟩) n cap) n xs := ⟨h1, .inr ⟨g, cap, cur, rfl, hg, hh, hn, hm, hs, ht⟩⟩
    rw [Nat.zero_add]
    exact ho.cellAt i (by omega)

/-! ### Lists of one-cell elements -/
@[irreducible] def nth (xs : List Nat) (i : Nat) : Nat := xs.getD i 0
@[irreducible] def nthB (xs : List Bool) (i : Nat) : Bool := xs.getD i false

theorem nth_lt (xs : List Nat) (i : Nat) (h : i < xs.length) : nth xs i = xs[i] := by unfold nth; simp [List.getD, h]
theorem nth_ge (xs : List Nat) (i : Nat) (h : xs.length ≤ i) : nth xs i = 0 := by unfold nth; simp [List.getD, h]
theorem nthB_lt (xs : List Bool) (i : Nat) (h : i < xs.length) : nthB xs i = xs[i] := by unfold nthB; simp [List.getD, h]
theorem nthB_ge (xs : List Bool) (i : Nat) (h : xs.length ≤ i) : nthB xs i = false := by unfold nthB; simp [List.getD, h]

/-- the numbers fit (below M) -/
def Fit (M : Nat) (xs : List Nat) : Prop := ∀ x ∈ xs, x < M
theorem Fit.nil (M : Nat) : Fit M [] := fun x h => by simp at h
theorem Fit.nth {M : Nat} {xs : List Nat} (h : Fit M xs) (hM : 0 < M) (i : Nat) : Att.nth xs i < M := by
  by_cases hi : i < xs.length
  · rw [nth_lt xs i hi]; exact h _ (List.getElem_mem hi)
  · rw [nth_ge xs i (by omega)]; exact hM
theorem Fit.app {M : Nat} {xs ys : List Nat} (h : Fit M xs) (k : Fit M ys) : Fit M (xs ++ ys) := fun x hx => by
  rcases List.mem_append.1 hx with hx | hx
  · exact h x hx
  · exact k x hx
theorem Fit.one {M x : Nat} (h : x < M) : Fit M [x] := fun y hy => by simp at hy; omega
theorem Fit.take {M : Nat} {xs : List Nat} (h : Fit M xs) (n : Nat) : Fit M (xs.take n) := fun x hx => h x (List.mem_of_mem_take hx)
theorem Fit.drop {M : Nat} {xs : List Nat} (h : Fit M xs) (n : Nat) : Fit M (xs.drop n) := fun x hx => h x (List.mem_of_mem_drop hx)
theorem Fit.set {M : Nat} {xs : List Nat} (h : Fit M xs) (i x : Nat) (hx : x < M) : Fit M (xs.set i x) := fun y hy => by
  rcases List.mem_or_eq_of_mem_set hy with hy | rfl
  · exact h y hy
  · exact hx
theorem Fit.replicate {M : Nat} (n x : Nat) (hx : x < M) : Fit M (List.replicate n x) := fun y hy => by rw [List.eq_of_mem_replicate hy]; exact hx

def ints (k : IntKind) (xs : List Nat) : List Value := xs.map fun (n : Nat) => Value.int k n
def bools (xs : List Bool) : List Value := xs.map Value.bool
theorem len_ints (k : IntKind) (xs : List Nat) : (ints k xs).length = xs.length := by simp [ints]
theorem len_bools (xs : List Bool) : (bools xs).length = xs.length := by simp [bools]
theorem at_ints (k : IntKind) (xs : List Nat) (i : Nat) (h : i < xs.length) : (ints k xs)[i]? = some (.int k (nth xs i)) := by
  simp [ints, nth_lt xs i h, h]
theorem at_bools (xs : List Bool) (i : Nat) (h : i < xs.length) : (bools xs)[i]? = some (.bool (nthB xs i)) := by
  simp [bools, nthB_lt xs i h, h]

/-- Slice v reads as the numbers xs. -/
def RdI (k : IntKind) (w : World) (v : Value) (xs : List Nat) : Prop := RdV w v 1 xs.length (ints k xs)
def RdB (w : World) (v : Value) (xs : List Bool) : Prop := RdV w v 1 xs.length (bools xs)
/-- Slice v owns, from block B on, the numbers xs. -/
def OwnI (k : IntKind) (e : TypeId) (B : Nat) (w : World) (v : Value) (xs : List Nat) : Prop := w.ownsRow B e 1 v xs.length (ints k xs)
def OwnB (e : TypeId) (B : Nat) (w : World) (v : Value) (xs : List Bool) : Prop := w.ownsRow B e 1 v xs.length (bools xs)

theorem RdI.ext {k : IntKind} {w w' : World} {v : Value} {xs : List Nat} (h : RdI k w v xs) (e : Ext w w') : RdI k w' v xs := RdV.ext h e
theorem RdB.ext {w w' : World} {v : Value} {xs : List Bool} (h : RdB w v xs) (e : Ext w w') : RdB w' v xs := RdV.ext h e
theorem OwnI.rd {k : IntKind} {e : TypeId} {B : Nat} {w : World} {v : Value} {xs : List Nat} (h : OwnI k e B w v xs) : RdI k w v xs := RdV.of_owns h
theorem OwnB.rd {e : TypeId} {B : Nat} {w : World} {v : Value} {xs : List Bool} (h : OwnB e B w v xs) : RdB w v xs := RdV.of_owns h
theorem OwnI.ext {k : IntKind} {e : TypeId} {B : Nat} {w w' : World} {v : Value} {xs : List Nat} (h : OwnI k e B w v xs) (x : Ext w w') : OwnI k e B w' v xs := Ext.owns x h
theorem OwnB.ext {e : TypeId} {B : Nat} {w w' : World} {v : Value} {xs : List Bool} (h : OwnB e B w v xs) (x : Ext w w') : OwnB e B w' v xs := Ext.owns x h
theorem owns_mono {w : World} {B B' : Nat} {e : TypeId} {size : Nat} {v : Value} {n : Nat} {xs : List Value} (o : w.ownsRow B e size v n xs) (h : B' ≤ B) : w.ownsRow B' e size v n xs := by
  rcases o with ⟨h1, h2 | ⟨g, cap, cur, hv, hg, r⟩⟩
  · exact ⟨h1, .inl h2⟩
  · exact ⟨h1, .inr ⟨g, cap, cur, hv, Nat.le_trans h hg, r⟩⟩
theorem OwnI.mono {k : IntKind} {e : TypeId} {B B' : Nat} {w : World} {v : Value} {xs : List Nat} (h : OwnI k e B w v xs) (hB : B' ≤ B) : OwnI k e B' w v xs := owns_mono h hB
theorem OwnB.mono {e : TypeId} {B B' : Nat} {w : World} {v : Value} {xs : List Bool} (h : OwnB e B w v xs) (hB : B' ≤ B) : OwnB e B' w v xs := owns_mono h hB

theorem RdI.shape {k : IntKind} {w : World} {v : Value} {xs : List Nat} (h : RdI k w v xs) : ∃ a cap, v = .slice a xs.length cap ∧ xs.length ≤ cap ∧ cap ≤ maxLen ∧ (a = none → cap = 0) ∧
    ∀ i, i < xs.length → ∃ b off, a = some ⟨b, off, none⟩ ∧ w.cell? ⟨b, off + i, none⟩ = some (.int k (nth xs i)) := by
  obtain ⟨h0, a, cap, rfl, h1, h2, h3, h5⟩ := h
  refine ⟨a, cap, rfl, h1, h2, h3, fun i hi => ?_⟩
  obtain ⟨b, off, ha, hc⟩ := h5 i (by rw [len_ints]; exact hi)
  exact ⟨b, off, ha, hc.trans (at_ints k xs i hi)⟩
theorem RdB.shape {w : World} {v : Value} {xs : List Bool} (h : RdB w v xs) : ∃ a cap, v = .slice a xs.length cap ∧ xs.length ≤ cap ∧ cap ≤ maxLen ∧ (a = none → cap = 0) ∧
    ∀ i, i < xs.length → ∃ b off, a = some ⟨b, off, none⟩ ∧ w.cell? ⟨b, off + i, none⟩ = some (.bool (nthB xs i)) := by
  obtain ⟨h0, a, cap, rfl, h1, h2, h3, h5⟩ := h
  refine ⟨a, cap, rfl, h1, h2, h3, fun i hi => ?_⟩
  obtain ⟨b, off, ha, hc⟩ := h5 i (by rw [len_bools]; exact hi)
  exact ⟨b, off, ha, hc.trans (at_bools xs i hi)⟩

/-- One cell, at an address that is already known. -/
theorem RdI.cell {k : IntKind} {w : World} {b off n cap : Nat} {xs : List Nat} (h : RdI k w (.slice (some ⟨b, off, none⟩) n cap) xs) (i : Nat) (hi : i < xs.length) : w.cell? ⟨b, off + i, none⟩ = some (.int k (nth xs i)) := by
  obtain ⟨a, c, hv, _, _, _, h5⟩ := h.shape
  simp only [Value.slice.injEq] at hv
  obtain ⟨rfl, _, _⟩ := hv
  obtain ⟨b', o', hb, hc⟩ := h5 i hi
  simp only [Option.some.injEq, Addr.mk.injEq, and_true] at hb
  obtain ⟨rfl, rfl⟩ := hb
  exact hc
theorem RdB.cell {w : World} {b off n cap : Nat} {xs : List Bool} (h : RdB w (.slice (some ⟨b, off, none⟩) n cap) xs) (i : Nat) (hi : i < xs.length) : w.cell? ⟨b, off + i, none⟩ = some (.bool (nthB xs i)) := by
  obtain ⟨a, c, hv, _, _, _, h5⟩ := h.shape
  simp only [Value.slice.injEq] at hv
  obtain ⟨rfl, _, _⟩ := hv
  obtain ⟨b', o', hb, hc⟩ := h5 i hi
  simp only [Option.some.injEq, Addr.mk.injEq, and_true] at hb
  obtain ⟨rfl, rfl⟩ := hb
  exact hc

/-- The first m elements of what is read. -/
theorem RdV.take {w : World} {a : Option Addr} {n cap m : Nat} {cells : List Value} (h : RdV w (.slice a n cap) 1 n cells) (hm : m ≤ n) : RdV w (.slice a m cap) 1 m (cells.take m) := by
  obtain ⟨h0, a', c, hv, h1, h2, h3, h5⟩ := h
  simp only [Value.slice.injEq] at hv
  obtain ⟨rfl, _, rfl⟩ := hv
  have hl : (cells.take m).length = m := by rw [List.length_take, h0]; omega
  refine ⟨by rw [hl]; omega, a, cap, rfl, by omega, h2, h3, fun i hi => ?_⟩
  rw [hl] at hi
  obtain ⟨b, off, ha, hc⟩ := h5 i (by omega)
  refine ⟨b, off, ha, ?_⟩
  rw [List.getElem?_take_of_lt (by omega)]
  exact hc
theorem RdI.take {k : IntKind} {w : World} {a : Option Addr} {n cap m : Nat} {xs : List Nat} (h : RdI k w (.slice a n cap) xs) (hn : n = xs.length) (hm : m ≤ xs.length) : RdI k w (.slice a m cap) (xs.take m) := by
  subst hn
  have := RdV.take h hm
  unfold RdI ints at *
  rw [List.map_take]
  rw [show (xs.take m).length = m by rw [List.length_take]; omega]
  exact this
theorem RdB.take {w : World} {a : Option Addr} {n cap m : Nat} {xs : List Bool} (h : RdB w (.slice a n cap) xs) (hn : n = xs.length) (hm : m ≤ xs.length) : RdB w (.slice a m cap) (xs.take m) := by
  subst hn
  have := RdV.take h hm
  unfold RdB bools at *
  rw [List.map_take]
  rw [show (xs.take m).length = m by rw [List.length_take]; omega]
  exact this
/-- An owned row cut shorter. -/
theorem owns_take {w : World} {B : Nat} {e : TypeId} {a : Option Addr} {n cap m : Nat} {xs : List Value} (o : w.ownsRow B e 1 (.slice a n cap) n xs) (hm : m ≤ n) : w.ownsRow B e 1 (.slice a m cap) m (xs.take m) := by
  rcases o with ⟨h1, ⟨h2, rfl⟩ | ⟨g, c, cur, hv, hg, hh, hn, hc, hs, ht⟩⟩
  · simp only [Value.slice.injEq] at h2
    obtain ⟨rfl, _, rfl⟩ := h2
    obtain rfl : m = 0 := by omega
    exact ⟨by simp, .inl ⟨rfl, rfl⟩⟩
  · simp only [Value.slice.injEq] at hv
    obtain ⟨rfl, _, rfl⟩ := hv
    refine ⟨by rw [List.length_take]; omega, .inr ⟨g, cap, cur, rfl, hg, hh, by omega, hc, hs, ?_⟩⟩
    rw [← ht, List.take_take]
    congr 1
    omega
theorem OwnI.take {k : IntKind} {e : TypeId} {B : Nat} {w : World} {a : Option Addr} {n cap m : Nat} {xs : List Nat} (h : OwnI k e B w (.slice a n cap) xs) (hn : n = xs.length) (hm : m ≤ xs.length) : OwnI k e B w (.slice a m cap) (xs.take m) := by
  subst hn
  have := owns_take h hm
  unfold OwnI ints at *
  rw [List.map_take, show (xs.take m).length = m by rw [List.length_take]; omega]
  exact this
theorem OwnB.take {e : TypeId} {B : Nat} {w : World} {a : Option Addr} {n cap m : Nat} {xs : List Bool} (h : OwnB e B w (.slice a n cap) xs) (hn : n = xs.length) (hm : m ≤ xs.length) : OwnB e B w (.slice a m cap) (xs.take m) := by
  subst hn
  have := owns_take h hm
  unfold OwnB bools at *
  rw [List.map_take, show (xs.take m).length = m by rw [List.length_take]; omega]
  exact this
theorem OwnI.nil (k : IntKind) (e : TypeId) (B : Nat) (w : World) : OwnI k e B w (.slice none 0 0) [] := World.ownsRow_nil w B e 1
theorem OwnB.nil (e : TypeId) (B : Nat) (w : World) : OwnB e B w (.slice none 0 0) [] := World.ownsRow_nil w B e 1
theorem RdI.nil (k : IntKind) (w : World) : RdI k w (.slice none 0 0) [] := RdV.nil w 1
theorem RdB.nil (w : World) : RdB w (.slice none 0 0) [] := RdV.nil w 1

/-- What is read, as the appended list of the laws on append. -/
theorem RdV.news {w : World} {size n cap : Nat} {ao : Option Addr} {cells : List Value} (h : RdV w (.slice ao n cap) size n cells) : ∀ ad, ao = some ad → ∀ j u, cells[j]? = some u → w.cell? (ad.add j) = some u := by
  obtain ⟨h0, a', c, hv, h1, h2, h3, h5⟩ := h
  simp only [Value.slice.injEq] at hv
  obtain ⟨rfl, _, rfl⟩ := hv
  intro ad had j u hu
  have hj := (List.getElem?_eq_some_iff.1 hu).1
  obtain ⟨b, off, ha, hc⟩ := h5 j hj
  rw [ha] at had
  obtain rfl := Option.some.inj had
  rw [Addr.add_lit, hc]
  exact hu
theorem ints_one (k : IntKind) (xs : List Nat) : ∀ u ∈ ints k xs, u.oneCell' = true := by
  intro u hu; obtain ⟨_, _, rfl⟩ := List.mem_map.1 hu; rfl
theorem bools_one (xs : List Bool) : ∀ u ∈ bools xs, u.oneCell' = true := by
  intro u hu; obtain ⟨_, _, rfl⟩ := List.mem_map.1 hu; rfl
theorem ints_app (k : IntKind) (xs ys : List Nat) : ints k (xs ++ ys) = ints k xs ++ ints k ys := by simp [ints]
theorem bools_app (xs ys : List Bool) : bools (xs ++ ys) = bools xs ++ bools ys := by simp [bools]

theorem bneT {a b : Int} (h : a ≠ b) : (a != b) = true := bne_iff_ne.2 h
theorem bneF {a b : Int} (h : a = b) : (a != b) = false := by rw [h]; simp
theorem beqT {a b : Int} (h : a = b) : (a == b) = true := beq_iff_eq.2 h
theorem beqF {a b : Int} (h : a ≠ b) : (a == b) = false := beq_eq_false_iff_ne.2 h

end Go.Att
