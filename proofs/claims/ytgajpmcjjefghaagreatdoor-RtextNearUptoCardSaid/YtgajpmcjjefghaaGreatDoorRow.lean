/- Slices of structs: rows whose elements are so many cells each. Nothing here names the program. -/
import Derived.Test.YtgajpmcjjefghaaGreatDoorBox
namespace Go.Att
open Go.RowKit

/-- The cells of each element stand for the members of l. -/
def Pw {α : Type} (k : Nat) (R : List Value → α → Prop) : List (List Value) → List α → Prop
  | [], [] => True
  | c :: E, a :: l => (c.length = k ∧ R c a) ∧ Pw k R E l
  | [], _ :: _ => False
  | _ :: _, [] => False
section
variable {α : Type} {k : Nat}
theorem Pw.len {R : List Value → α → Prop} : ∀ {E : List (List Value)} {l : List α}, Pw k R E l → E.length = l.length
  | [], [], _ => rfl
  | _ :: _, _ :: _, h => by have := Pw.len h.2; simp [this]
  | [], _ :: _, h => h.elim
  | _ :: _, [], h => h.elim
theorem Pw.flat {R : List Value → α → Prop} : ∀ {E : List (List Value)} {l : List α}, Pw k R E l → E.flatten.length = l.length * k
  | [], [], _ => by simp
  | _ :: _, _ :: _, h => by
    have := Pw.flat h.2
    rw [List.flatten_cons, List.length_append, this, h.1.1, List.length_cons, Nat.succ_mul]
    omega
  | [], _ :: _, h => h.elim
  | _ :: _, [], h => h.elim
theorem Pw.mono {R S : List Value → α → Prop} (hRS : ∀ c a, R c a → S c a) : ∀ {E : List (List Value)} {l : List α}, Pw k R E l → Pw k S E l
  | [], [], _ => trivial
  | _ :: _, _ :: _, h => ⟨⟨h.1.1, hRS _ _ h.1.2⟩, Pw.mono hRS h.2⟩
  | [], _ :: _, h => h.elim
  | _ :: _, [], h => h.elim
theorem Pw.app {R : List Value → α → Prop} : ∀ {E F : List (List Value)} {l m : List α}, Pw k R E l → Pw k R F m → Pw k R (E ++ F) (l ++ m)
  | [], _, [], _, _, hF => hF
  | _ :: _, _, _ :: _, _, h, hF => ⟨h.1, Pw.app h.2 hF⟩
  | [], _, _ :: _, _, h, _ => h.elim
  | _ :: _, _, [], _, h, _ => h.elim
theorem Pw.one {R : List Value → α → Prop} {c : List Value} {a : α} (hc : c.length = k) (h : R c a) : Pw k R [c] [a] := ⟨⟨hc, h⟩, trivial⟩
theorem Pw.at {R : List Value → α → Prop} : ∀ {E : List (List Value)} {l : List α}, Pw k R E l → ∀ i (hi : i < l.length), ∃ c, c.length = k ∧ R c l[i] ∧ ∀ j, j < k → E.flatten[i * k + j]? = c[j]?
  | c :: _, _ :: _, h, 0, _ => ⟨c, h.1.1, h.1.2, fun j hj => by
      rw [Nat.zero_mul, Nat.zero_add, List.flatten_cons, List.getElem?_append_left (by rw [h.1.1]; exact hj)]⟩
  | _ :: _, _ :: _, h, i + 1, hi => by
    obtain ⟨d, h1, h2, h3⟩ := Pw.at h.2 i (by simpa using hi)
    refine ⟨d, h1, by simpa using h2, fun j hj => ?_⟩
    rw [← h3 j hj, List.flatten_cons, List.getElem?_append_right (by rw [h.1.1, Nat.succ_mul]; omega), h.1.1]
    congr 1
    rw [Nat.succ_mul]
    omega
  | [], [], _, _, hi => by simp at hi
  | [], _ :: _, h, _, _ => h.elim
  | _ :: _, [], h, _, _ => h.elim

/-- Slice v reads as l: each element is k cells, a value that stands for the member by T. -/
def RdRow (k : Nat) (T : World → Value → α → Prop) (w : World) (v : Value) (l : List α) : Prop :=
  ∃ E : List (List Value), RdV w v k l.length E.flatten ∧ Pw k (fun c a => T w (.agg c.toArray) a) E l
/-- .. in new memory. -/
def OwnRow (k : Nat) (T : World → Value → α → Prop) (e : TypeId) (B : Nat) (w : World) (v : Value) (l : List α) : Prop :=
  ∃ E : List (List Value), w.ownsRow B e k v l.length E.flatten ∧ Pw k (fun c a => T w (.agg c.toArray) a) E l
variable {T : World → Value → α → Prop}
theorem OwnRow.rd {e : TypeId} {B : Nat} {w : World} {v : Value} {l : List α} (h : OwnRow k T e B w v l) : RdRow k T w v l := by
  obtain ⟨E, h1, h2⟩ := h
  exact ⟨E, RdV.of_owns h1, h2⟩
theorem RdRow.ext {w w' : World} {v : Value} {l : List α} (h : RdRow k T w v l) (hT : ∀ {w w' v a}, T w v a → Ext w w' → T w' v a) (x : Ext w w') : RdRow k T w' v l := by
  obtain ⟨E, h1, h2⟩ := h
  exact ⟨E, h1.ext x, h2.mono fun _ _ h => hT h x⟩
theorem OwnRow.ext {e : TypeId} {B : Nat} {w w' : World} {v : Value} {l : List α} (h : OwnRow k T e B w v l) (hT : ∀ {w w' v a}, T w v a → Ext w w' → T w' v a) (x : Ext w w') : OwnRow k T e B w' v l := by
  obtain ⟨E, h1, h2⟩ := h
  exact ⟨E, Ext.owns x h1, h2.mono fun _ _ h => hT h x⟩
theorem OwnRow.mono {e : TypeId} {B B' : Nat} {w : World} {v : Value} {l : List α} (h : OwnRow k T e B w v l) (hB : B' ≤ B) : OwnRow k T e B' w v l := by
  obtain ⟨E, h1, h2⟩ := h
  exact ⟨E, owns_mono h1 hB, h2⟩
theorem OwnRow.nil (e : TypeId) (B : Nat) (w : World) : OwnRow k T e B w (.slice none 0 0) [] := ⟨[], ⟨by simp, .inl ⟨rfl, rfl⟩⟩, trivial⟩
theorem OwnRow.nilLit (e : TypeId) {B : Nat} {w : World} (hB : B ≤ w.heap.size) : OwnRow k T e B (w.alloc (.cells #[] e)) (.slice (some ⟨w.heap.size, 0, none⟩) 0 0) [] :=
  ⟨[], World.ownsRow_lit w #[] 0 hB (Nat.zero_le _) (by simp), trivial⟩
theorem RdRow.shape {w : World} {v : Value} {l : List α} (h : RdRow k T w v l) : ∃ a c, v = .slice a l.length c ∧ l.length ≤ c ∧ c ≤ maxLen := by
  obtain ⟨E, ⟨_, a, c, rfl, h1, h2, _⟩, _⟩ := h
  exact ⟨a, c, rfl, h1, h2⟩
/-- One element. -/
theorem RdRow.at {w : World} {a : Option Addr} {n c : Nat} {l : List α} (h : RdRow k T w (.slice a n c) l) (hk : 0 < k) (i : Nat) (hi : i < l.length) :
    ∃ (b off : Nat) (cs : List Value), a = some ⟨b, off, none⟩ ∧ cs.length = k ∧ T w (.agg cs.toArray) l[i] ∧ ∀ j, j < k → w.cell? ⟨b, off + i * k + j, none⟩ = cs[j]? := by
  obtain ⟨E, ⟨h0, a', c', hv, h1, h2, h3, h5⟩, hp⟩ := h
  simp only [Value.slice.injEq] at hv
  obtain ⟨rfl, rfl, rfl⟩ := hv
  have hlen := hp.flat
  have hle : i * k + k ≤ l.length * k := by rw [← Nat.succ_mul]; exact Nat.mul_le_mul_right k hi
  obtain ⟨b, off, ha, _⟩ := h5 (i * k) (by rw [hlen]; omega)
  obtain ⟨cs, e1, e2, e3⟩ := hp.at i hi
  refine ⟨b, off, cs, ha, e1, e2, fun j hj => ?_⟩
  obtain ⟨b', off', ha', hc⟩ := h5 (i * k + j) (by rw [hlen]; omega)
  rw [ha] at ha'
  simp only [Option.some.injEq, Addr.mk.injEq, and_true] at ha'
  obtain ⟨rfl, rfl⟩ := ha'
  rw [← e3 j hj, ← hc]
  congr 2
  omega
/-- What an append leaves. -/
theorem OwnRow.snoc {e : TypeId} {B : Nat} {w w' : World} {v' : Value} {l : List α} {a : α} {c : List Value} {E : List (List Value)} (hp : Pw k (fun c a => T w (.agg c.toArray) a) E l) (hT : ∀ {w w' v a}, T w v a → Ext w w' → T w' v a)
    (ho : w'.ownsRow B e k v' (l.length + 1) (E.flatten ++ c)) (x : Ext w w') (hc : c.length = k) (ha : T w' (.agg c.toArray) a) : OwnRow k T e B w' v' (l ++ [a]) := by
  refine ⟨E ++ [c], ?_, (hp.mono fun _ _ h => hT h x).app (Pw.one hc ha)⟩
  rw [List.length_append, List.flatten_append]
  simpa using ho
end
/-- The cells of a rational number's value. -/
theorem cells_Q {w : World} {cs : List Value} {q : Rat} (h : RdQ w (.agg cs.toArray) q) : ∃ a c b d, cs = [.bool (decide (q.num < 0)), .slice a (limbs q.num.natAbs).length c, .slice b (dens q.den).length d] := by
  obtain ⟨n, m, he, h1, h2⟩ := h
  obtain ⟨a, c, rfl, -, -, -, -⟩ := h1.1.shape
  obtain ⟨b, d, rfl, -, -, -, -⟩ := h2.1.shape
  have : cs.toArray = #[.bool (decide (q.num < 0)), .slice a (limbs q.num.natAbs).length c, .slice b (dens q.den).length d] := by simpa using he
  exact ⟨a, c, b, d, by simpa using congrArg Array.toList this⟩
theorem cells_P {w : World} {cs : List Value} {q : Rat} (h : RdP w (.agg cs.toArray) q) : ∃ a c b d, cs = [.bool (decide (q.num < 0)), .slice a (bitsOf q.num.natAbs).length c, .slice b (bitsOf q.den).length d] := by
  obtain ⟨n, m, he, h1, h2⟩ := h
  obtain ⟨a, c, rfl, -, -, -, -⟩ := h1.shape
  obtain ⟨b, d, rfl, -, -, -, -⟩ := h2.shape
  have : cs.toArray = #[.bool (decide (q.num < 0)), .slice a (bitsOf q.num.natAbs).length c, .slice b (bitsOf q.den).length d] := by simpa using he
  exact ⟨a, c, b, d, by simpa using congrArg Array.toList this⟩
theorem shape_Q {w : World} {x y z : Value} {q : Rat} (h : RdQ w (.agg #[x, y, z]) q) : ∃ a c b d, x = .bool (decide (q.num < 0)) ∧ y = .slice a (limbs q.num.natAbs).length c ∧ z = .slice b (dens q.den).length d := by
  obtain ⟨a, c, b, d, h⟩ := cells_Q (cs := [x, y, z]) h
  exact ⟨a, c, b, d, by simpa using h⟩
theorem shape_P {w : World} {x y z : Value} {q : Rat} (h : RdP w (.agg #[x, y, z]) q) : ∃ a c b d, x = .bool (decide (q.num < 0)) ∧ y = .slice a (bitsOf q.num.natAbs).length c ∧ z = .slice b (bitsOf q.den).length d := by
  obtain ⟨a, c, b, d, h⟩ := cells_P (cs := [x, y, z]) h
  exact ⟨a, c, b, d, by simpa using h⟩
/-- Pairs. -/
def RdDp (w : World) (v : Value) (p : Rat × Rat) : Prop := RdD w v p.1 p.2
def RdEp (w : World) (v : Value) (p : Rat × Rat) : Prop := RdE w v p.1 p.2
theorem RdDp.ext {w w' : World} {v : Value} {p : Rat × Rat} (h : RdDp w v p) (e : Ext w w') : RdDp w' v p := RdD.ext h e
theorem RdEp.ext {w w' : World} {v : Value} {p : Rat × Rat} (h : RdEp w v p) (e : Ext w w') : RdEp w' v p := RdE.ext h e
theorem cells_D {w : World} {cs : List Value} {a b : Rat} (h : RdD w (.agg cs.toArray) a b) : ∃ x y z x' y' z', cs = [x, y, z, x', y', z'] ∧ RdQ w (.agg #[x, y, z]) a ∧ RdQ w (.agg #[x', y', z']) b := by
  obtain ⟨x, y, z, x', y', z', he, h1, h2⟩ := h
  have : cs.toArray = #[x, y, z, x', y', z'] := by simpa using he
  exact ⟨x, y, z, x', y', z', by simpa using congrArg Array.toList this, h1, h2⟩
theorem cells_E {w : World} {cs : List Value} {a b : Rat} (h : RdE w (.agg cs.toArray) a b) : ∃ x y z x' y' z', cs = [x, y, z, x', y', z'] ∧ RdP w (.agg #[x, y, z]) a ∧ RdP w (.agg #[x', y', z']) b := by
  obtain ⟨x, y, z, x', y', z', he, h1, h2⟩ := h
  have : cs.toArray = #[x, y, z, x', y', z'] := by simpa using he
  exact ⟨x, y, z, x', y', z', by simpa using congrArg Array.toList this, h1, h2⟩
end Go.Att
