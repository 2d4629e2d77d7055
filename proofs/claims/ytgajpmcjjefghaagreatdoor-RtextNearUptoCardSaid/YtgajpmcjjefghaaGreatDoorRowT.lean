/- Rows that grow by one struct at a time; numbers as they come in, in rows. Nothing here names the program. -/
import Derived.Test.YtgajpmcjjefghaaGreatDoorAppK
namespace Go.Att
open Go.RowKit

/-- What T says is stable, and is not undone by an append to a row of type e. -/
structure Kd {α : Type} (e : TypeId) (T : World → Value → α → Prop) : Prop where
  ext : ∀ {w w' : World} {v : Value} {a : α}, T w v a → Ext w w' → T w' v a
  grown : ∀ {w w' : World} {v v' : Value} {a : α} {B n size : Nat} {xs : List Value}, T w v a → w.ownsRow B e size v' n xs → w.grownBy w' v'.ownBlock → T w' v a
  one : ∀ {w : World} {cs : List Value} {a : α}, T w (.agg cs.toArray) a → ∀ u ∈ cs, u.oneCell' = true
/-- append of one struct that lies in a literal of its own. -/
theorem append_row {α : Type} {P : Program} {o : Oper} {a : Act} {K : Act → World → Prop} {Q : Exit → Act → World → Prop} {t e : TypeId} {z : Value} {size bytes : Nat} (ET : ElemT P t e z size bytes) {T : World → Value → α → Prop} (hT : Kd e T)
    (s x : Operand) (ho : o.op = .call { callee := .builtin .append, args := #[s, x], argTypes := #[t, t] }) (B : Nat) {v : Value} {l : List α} (hs : a.eval s = v) {w0 : World} (c : List Value) {t' : TypeId} {y : α}
    (hx : a.eval x = .slice (some ⟨w0.heap.size, 0, none⟩) 1 1) (hown : OwnRow size T e B w0 v l) (hc : c.length = size) (ha : T w0 (.agg c.toArray) y) (hB : B ≤ w0.heap.size) (hl : (l.length + 1) * bytes ≤ 140737488355328) (hm : l.length + 1 ≤ maxLen)
    (h : ∀ v' w', OwnRow size T e B w' v' (l ++ [y]) → Below B w0 w' → (w0.alloc (.cells c.toArray t')).grownBy w' v.ownBlock → K (a.put o.dst v') w') : o.wp P a (w0.alloc (.cells c.toArray t')) K Q := by
  obtain ⟨E, hE, hP⟩ := hown
  have X : Ext w0 (w0.alloc (.cells c.toArray t')) := Ext.alloc _ _
  have hE' := Ext.owns X hE
  refine append_rdK ET s x ho B hs hE' hx (RdV.lit w0 c.toArray t' size 1 (by simpa using hc) (by unfold maxLen; omega)) (fun u hu => hT.one ha u (by simpa using hu)) hl hm (Nat.le_trans hB (Below.size X)) ?_
  intro v' w' o' b' g'
  exact h v' w' (OwnRow.snocT (hP.mono fun _ _ h => hT.ext h X) (fun _ _ h => hT.grown h hE' g') (by simpa using o') hc (hT.ext ha X)) (Below.trans ((show Below w0.heap.size w0 _ from X).mono hB) b') g'

/-- .. at the list of a plain region. -/
theorem append_rowL {α : Type} {P : Program} {ops : Array Oper} {rest : List Oper} {o : Oper} {a : Act} {Q : Exit → Act → World → Prop} {t e : TypeId} {z : Value} {size bytes : Nat} (ET : ElemT P t e z size bytes) {T : World → Value → α → Prop} (hT : Kd e T)
    (hgd : Region.wanted o (yielded ops a.tmps) = true) (s x : Operand) (ho : o.op = .call { callee := .builtin .append, args := #[s, x], argTypes := #[t, t] }) (B : Nat) {v : Value} {l : List α} (hs : a.eval s = v) {w0 : World} (c : List Value) {t' : TypeId} {y : α}
    (hx : a.eval x = .slice (some ⟨w0.heap.size, 0, none⟩) 1 1) (hown : OwnRow size T e B w0 v l) (hc : c.length = size) (ha : T w0 (.agg c.toArray) y) (hB : B ≤ w0.heap.size) (hl : (l.length + 1) * bytes ≤ 140737488355328) (hm : l.length + 1 ≤ maxLen)
    (h : ∀ v' w', OwnRow size T e B w' v' (l ++ [y]) → Below B w0 w' → (w0.alloc (.cells c.toArray t')).grownBy w' v.ownBlock → wpList P ops Q rest (a.put o.dst v') w') : wpList P ops Q (o :: rest) a (w0.alloc (.cells c.toArray t')) :=
  wpList_want hgd fun _ hK => append_row ET hT s x ho B hs c hx hown hc ha hB hl hm fun v' w' a1 a2 a3 => hK _ _ (h v' w' a1 a2 a3)

def OwnQp (e : TypeId) (w : World) (v : Value) (q : Rat) : Prop := OwnQ e 0 w v q
def OwnPp (e : TypeId) (w : World) (v : Value) (q : Rat) : Prop := OwnP e 0 w v q
theorem one_q {w : World} {cs : List Value} {q : Rat} (h : RdQ w (.agg cs.toArray) q) : ∀ u ∈ cs, u.oneCell' = true := by
  obtain ⟨a, c, b, d, rfl⟩ := cells_Q h
  intro u hu
  simp at hu
  rcases hu with rfl | rfl | rfl <;> rfl
theorem one_p {w : World} {cs : List Value} {q : Rat} (h : RdP w (.agg cs.toArray) q) : ∀ u ∈ cs, u.oneCell' = true := by
  obtain ⟨a, c, b, d, rfl⟩ := cells_P h
  intro u hu
  simp at hu
  rcases hu with rfl | rfl | rfl <;> rfl
theorem one_d {w : World} {cs : List Value} {p q : Rat} (h : RdD w (.agg cs.toArray) p q) : ∀ u ∈ cs, u.oneCell' = true := by
  obtain ⟨x, y, z, x', y', z', rfl, h1, h2⟩ := cells_D h
  have g1 := one_q (cs := [x, y, z]) h1
  have g2 := one_q (cs := [x', y', z']) h2
  intro u hu
  simp at hu g1 g2
  rcases hu with rfl | rfl | rfl | rfl | rfl | rfl
  · exact g1.1
  · exact g1.2.1
  · exact g1.2.2
  · exact g2.1
  · exact g2.2.1
  · exact g2.2.2
theorem one_e {w : World} {cs : List Value} {p q : Rat} (h : RdE w (.agg cs.toArray) p q) : ∀ u ∈ cs, u.oneCell' = true := by
  obtain ⟨x, y, z, x', y', z', rfl, h1, h2⟩ := cells_E h
  have g1 := one_p (cs := [x, y, z]) h1
  have g2 := one_p (cs := [x', y', z']) h2
  intro u hu
  simp at hu g1 g2
  rcases hu with rfl | rfl | rfl | rfl | rfl | rfl
  · exact g1.1
  · exact g1.2.1
  · exact g1.2.2
  · exact g2.1
  · exact g2.2.1
  · exact g2.2.2
theorem OwnQ.grown {e e' : TypeId} {B' : Nat} {w w' : World} {v v' : Value} {q : Rat} {B n size : Nat} {xs : List Value} (h : OwnQ e B' w v q) (hr : w.ownsRow B e' size v' n xs) (hne : e ≠ e') (hg : w.grownBy w' v'.ownBlock) : OwnQ e B' w' v q := by
  obtain ⟨n, d, rfl, h1, h2⟩ := h
  exact ⟨_, _, rfl, ⟨owns_grown h1.1 hr hne hg, h1.2⟩, ⟨owns_grown h2.1 hr hne hg, h2.2⟩⟩
theorem OwnP.grown {e e' : TypeId} {B' : Nat} {w w' : World} {v v' : Value} {q : Rat} {B n size : Nat} {xs : List Value} (h : OwnP e B' w v q) (hr : w.ownsRow B e' size v' n xs) (hne : e ≠ e') (hg : w.grownBy w' v'.ownBlock) : OwnP e B' w' v q := by
  obtain ⟨n, d, rfl, h1, h2⟩ := h
  exact ⟨_, _, rfl, owns_grown h1 hr hne hg, owns_grown h2 hr hne hg⟩
theorem kdQ {e e' : TypeId} (hne : e ≠ e') : Kd e' (OwnQp e) := ⟨fun h X => OwnQ.ext h X, fun h hr hg => OwnQ.grown h hr hne hg, fun h => one_q (OwnQ.rd h)⟩
theorem kdP {e e' : TypeId} (hne : e ≠ e') : Kd e' (OwnPp e) := ⟨fun h X => OwnP.ext h X, fun h hr hg => OwnP.grown h hr hne hg, fun h => one_p (OwnP.rd h)⟩
theorem kdD {e e' : TypeId} (hne : e ≠ e') : Kd e' (OwnDp e) := ⟨fun h X => OwnD.ext h X, fun h hr hg => OwnDp.grown h hr hne hg, fun h => one_d (OwnD.rd h)⟩
theorem kdE {e e' : TypeId} (hne : e ≠ e') : Kd e' (OwnEp e) := ⟨fun h X => OwnE.ext h X, fun h hr hg => OwnEp.grown h hr hne hg, fun h => one_e (OwnE.rd h)⟩

/-! ### Shapes by letters alone -/
theorem OwnQ.op {e : TypeId} {B : Nat} {w : World} {v : Value} {q : Rat} (h : OwnQ e B w v q) : ∃ s a l c a' l' c', v = .agg #[.bool s, .slice a l c, .slice a' l' c'] ∧ Hid (OwnQ e B w (.agg #[.bool s, .slice a l c, .slice a' l' c']) q) := by
  have h0 := h
  obtain ⟨n, d, rfl, h1, h2⟩ := h
  obtain ⟨a, c, rfl, -, -, -, -⟩ := h1.rd.1.shape
  obtain ⟨a', c', rfl, -, -, -, -⟩ := h2.rd.1.shape
  exact ⟨_, _, _, _, _, _, _, rfl, h0⟩
theorem RdQ.op {w : World} {v : Value} {q : Rat} (h : RdQ w v q) : ∃ s a l c a' l' c', v = .agg #[.bool s, .slice a l c, .slice a' l' c'] ∧ Hid (RdQ w (.agg #[.bool s, .slice a l c, .slice a' l' c']) q) := by
  have h0 := h
  obtain ⟨n, d, rfl, h1, h2⟩ := h
  obtain ⟨a, c, rfl, -, -, -, -⟩ := h1.1.shape
  obtain ⟨a', c', rfl, -, -, -, -⟩ := h2.1.shape
  exact ⟨_, _, _, _, _, _, _, rfl, h0⟩
theorem OwnP.op {e : TypeId} {B : Nat} {w : World} {v : Value} {q : Rat} (h : OwnP e B w v q) : ∃ s a l c a' l' c', v = .agg #[.bool s, .slice a l c, .slice a' l' c'] ∧ Hid (OwnP e B w (.agg #[.bool s, .slice a l c, .slice a' l' c']) q) := by
  have h0 := h
  obtain ⟨n, d, rfl, h1, h2⟩ := h
  obtain ⟨a, c, rfl, -, -, -, -⟩ := h1.rd.shape
  obtain ⟨a', c', rfl, -, -, -, -⟩ := h2.rd.shape
  exact ⟨_, _, _, _, _, _, _, rfl, h0⟩
theorem RdP.op {w : World} {v : Value} {q : Rat} (h : RdP w v q) : ∃ s a l c a' l' c', v = .agg #[.bool s, .slice a l c, .slice a' l' c'] ∧ Hid (RdP w (.agg #[.bool s, .slice a l c, .slice a' l' c']) q) := by
  have h0 := h
  obtain ⟨n, d, rfl, h1, h2⟩ := h
  obtain ⟨a, c, rfl, -, -, -, -⟩ := h1.shape
  obtain ⟨a', c', rfl, -, -, -, -⟩ := h2.shape
  exact ⟨_, _, _, _, _, _, _, rfl, h0⟩
theorem OwnD.op {e : TypeId} {B : Nat} {w : World} {v : Value} {p q : Rat} (h : OwnD e B w v p q) : ∃ s a l c a' l' c' t b m d b' m' d', v = .agg #[.bool s, .slice a l c, .slice a' l' c', .bool t, .slice b m d, .slice b' m' d'] ∧ Hid (OwnD e B w (.agg #[.bool s, .slice a l c, .slice a' l' c', .bool t, .slice b m d, .slice b' m' d']) p q) := by
  have h0 := h
  obtain ⟨n, d, n', d', rfl, h1, h2, h3, h4⟩ := h
  obtain ⟨_, _, rfl, -, -, -, -⟩ := h1.rd.1.shape
  obtain ⟨_, _, rfl, -, -, -, -⟩ := h2.rd.1.shape
  obtain ⟨_, _, rfl, -, -, -, -⟩ := h3.rd.1.shape
  obtain ⟨_, _, rfl, -, -, -, -⟩ := h4.rd.1.shape
  exact ⟨_, _, _, _, _, _, _, _, _, _, _, _, _, _, rfl, h0⟩
theorem RdD.op {w : World} {v : Value} {p q : Rat} (h : RdD w v p q) : ∃ s a l c a' l' c' t b m d b' m' d', v = .agg #[.bool s, .slice a l c, .slice a' l' c', .bool t, .slice b m d, .slice b' m' d'] ∧ Hid (RdD w (.agg #[.bool s, .slice a l c, .slice a' l' c', .bool t, .slice b m d, .slice b' m' d']) p q) := by
  have h0 := h
  obtain ⟨x, y, z, x', y', z', rfl, h1, h2⟩ := h
  obtain ⟨s, a, l, c, a', l', c', e1, -⟩ := h1.op
  obtain ⟨t, b, m, d, b', m', d', e2, -⟩ := h2.op
  simp only [Value.agg.injEq, Array.mk.injEq, List.cons.injEq, and_true] at e1 e2
  obtain ⟨rfl, rfl, rfl⟩ := e1
  obtain ⟨rfl, rfl, rfl⟩ := e2
  exact ⟨_, _, _, _, _, _, _, _, _, _, _, _, _, _, rfl, h0⟩
theorem RdE.op {w : World} {v : Value} {p q : Rat} (h : RdE w v p q) : ∃ s a l c a' l' c' t b m d b' m' d', v = .agg #[.bool s, .slice a l c, .slice a' l' c', .bool t, .slice b m d, .slice b' m' d'] ∧ Hid (RdE w (.agg #[.bool s, .slice a l c, .slice a' l' c', .bool t, .slice b m d, .slice b' m' d']) p q) := by
  have h0 := h
  obtain ⟨x, y, z, x', y', z', rfl, h1, h2⟩ := h
  obtain ⟨s, a, l, c, a', l', c', e1, -⟩ := h1.op
  obtain ⟨t, b, m, d, b', m', d', e2, -⟩ := h2.op
  simp only [Value.agg.injEq, Array.mk.injEq, List.cons.injEq, and_true] at e1 e2
  obtain ⟨rfl, rfl, rfl⟩ := e1
  obtain ⟨rfl, rfl, rfl⟩ := e2
  exact ⟨_, _, _, _, _, _, _, _, _, _, _, _, _, _, rfl, h0⟩
theorem OwnE.op {e : TypeId} {B : Nat} {w : World} {v : Value} {p q : Rat} (h : OwnE e B w v p q) : ∃ s a l c a' l' c' t b m d b' m' d', v = .agg #[.bool s, .slice a l c, .slice a' l' c', .bool t, .slice b m d, .slice b' m' d'] ∧ Hid (OwnE e B w (.agg #[.bool s, .slice a l c, .slice a' l' c', .bool t, .slice b m d, .slice b' m' d']) p q) := by
  obtain ⟨s, a, l, c, a', l', c', t, b, m, d, b', m', d', rfl, -⟩ := h.rd.op
  exact ⟨_, _, _, _, _, _, _, _, _, _, _, _, _, _, rfl, h⟩

/-! ### Numbers as they come in -/
/-- A number as it comes in: a sign and two lists of limbs. -/
abbrev NN := Bool × List Nat × List Nat
def qN (n : NN) : Rat := qOf n.1 n.2.1 n.2.2
def RdNp (w : World) (v : Value) (n : NN) : Prop := RdN w v n.1 n.2.1 n.2.2
def RdNDp (w : World) (v : Value) (p : NN × NN) : Prop := RdND w v p.1.1 p.1.2.1 p.1.2.2 p.2.1 p.2.2.1 p.2.2.2
theorem RdNp.ext {w w' : World} {v : Value} {n : NN} (h : RdNp w v n) (e : Ext w w') : RdNp w' v n := RdN.ext h e
theorem RdNDp.ext {w w' : World} {v : Value} {p : NN × NN} (h : RdNDp w v p) (e : Ext w w') : RdNDp w' v p := RdND.ext h e
/-- Its two lists are short enough. -/
def Nlt (L : Nat) (n : NN) : Prop := n.2.1.length ≤ L ∧ n.2.2.length ≤ L
theorem cells_N {w : World} {cs : List Value} {n : NN} (h : RdNp w (.agg cs.toArray) n) : ∃ y z, cs = [.bool n.1, y, z] := by
  obtain ⟨y, z, he, -, -⟩ := h
  have : cs.toArray = #[.bool n.1, y, z] := by simpa using he
  exact ⟨y, z, by simpa using congrArg Array.toList this⟩
theorem cells_ND {w : World} {cs : List Value} {p : NN × NN} (h : RdNDp w (.agg cs.toArray) p) : ∃ x0 x1 x2 x3 x4 x5, cs = [x0, x1, x2, x3, x4, x5] := by
  obtain ⟨x0, x1, x2, x3, x4, x5, he, -, -⟩ := h
  have : cs.toArray = #[x0, x1, x2, x3, x4, x5] := by simpa using he
  exact ⟨_, _, _, _, _, _, by simpa using congrArg Array.toList this⟩
end Go.Att
