/- Rows of terms that are overwritten, one behind the other. Nothing here names the program. -/
import Derived.Test.YtnbbhpihlcglgaaLinPlain
import Derived.Test.YtnbbhpihlcglgaaEvL
namespace Go.Att
open Go.RowKit

theorem make_capK {P : Program} {w : World} {o : Oper} {a : Act} {K : Act → World → Prop} {Q : Exit → Act → World → Prop} {t e : TypeId} {z : Value} {size bytes : Nat} (T : ElemT P t e z size bytes)
    (l c : Operand) (hop : o.op = Op.makeSlice t l c)
    (kl kc : IntKind) (n : Nat) (hl : a.eval l = .int kl 0) (hc : a.eval c = .int kc n) (b2 : bytes * n ≤ 281474976710656) (b3 : n ≤ maxLen)
    (hK : ∀ w', w'.ownsRow w.heap.size e size (.slice (some ⟨w.heap.size, 0, none⟩) 0 n) 0 [] → Ext w w' → K (a.put o.dst (.slice (some ⟨w.heap.size, 0, none⟩) 0 n)) w') : o.wp P a w K Q := by
  obtain ⟨i, hi, hz, hsz, hby⟩ := T.inf
  obtain ⟨w', hrun, r1, r2⟩ := run_make_own (P := P) w w.heap.size t e i z size T.und hi hz hsz kl kc n (by rw [hby]; exact b2) b3 (Nat.le_refl _)
  unfold Oper.wp
  simp [execOp, hop, hl, hc, hrun, Result.andThen]
  exact hK w' r1 (Ext.grown r2)
theorem Pw.init {α : Type} {k : Nat} {R : List Value → α → Prop} {y : α} : ∀ {l : List α} {E : List (List Value)}, Pw k R E (l ++ [y]) → ∃ E' e, E = E' ++ [e] ∧ Pw k R E' l
  | [], [e], _ => ⟨[], e, rfl, trivial⟩
  | [], [], h => h.elim
  | [], _ :: _ :: _, h => by
    have h2 : Pw k R _ ([] : List α) := h.2
    exact h2.elim
  | a :: l, [], h => h.elim
  | a :: l, c :: E, h => by
    obtain ⟨E', e, h1, h2⟩ := Pw.init (l := l) (E := E) h.2
    exact ⟨c :: E', e, by rw [h1]; rfl, h.1, h2⟩
/-- A row without its last element. -/
theorem RdRow.init {α : Type} {k : Nat} {T : World → Value → α → Prop} {w : World} {a : Option Addr} {m c : Nat} {l : List α} {y : α} (h : RdRow k T w (.slice a m c) (l ++ [y])) : RdRow k T w (.slice a l.length c) l := by
  obtain ⟨E, ⟨h0, a', c', hv, h1, h2, h3, h4⟩, hp⟩ := h
  simp only [Value.slice.injEq] at hv
  obtain ⟨rfl, -, rfl⟩ := hv
  obtain ⟨E', e, rfl, hp'⟩ := hp.init
  have hf := hp'.flat
  rw [List.length_append] at h1
  refine ⟨E', ⟨hf, a, c, rfl, by omega, h2, h3, fun i hi => ?_⟩, hp'⟩
  have hi' : i < (E' ++ [e]).flatten.length := by rw [List.flatten_append, List.length_append]; omega
  obtain ⟨b, off, hb, hc⟩ := h4 i hi'
  exact ⟨b, off, hb, by rw [hc, List.flatten_append, List.getElem?_append_left hi]⟩
theorem Rt.setCell {w : World} {b n : Nat} {t : TypeId} (h : Rt w b n t) (g i : Nat) (x : Value) : Rt (w.setCell ⟨g, i, none⟩ x) b n t := by
  by_cases hb : b = g
  · subst hb
    obtain ⟨cs, hn, h⟩ := h
    exact ⟨_, by simp [hn], heap_setCell_same _ b _ _ t x h⟩
  · exact h.set1 hb i x
theorem Rt.put4 {w : World} {b n : Nat} {t : TypeId} (h : Rt w b n t) (g o : Nat) (x0 x1 x2 x3 : Value) : Rt (Att.put4 w g o x0 x1 x2 x3) b n t := (((h.setCell g _ x0).setCell g _ x1).setCell g _ x2).setCell g _ x3
theorem Rt.ne {w : World} {b c n m : Nat} {t u : TypeId} (h : Rt w b n t) (h' : Rt w c m u) (ht : t ≠ u) : b ≠ c := fun e => by
  obtain ⟨cs, _, h1⟩ := h
  obtain ⟨ds, _, h2⟩ := h'
  rw [e, h2] at h1
  simp at h1
  exact ht h1.2.symm
theorem cell_set {w : World} {b o g : Nat} {x : Value} (h : w.cell? ⟨b, o, none⟩ = some x) (hne : b ≠ g) (i : Nat) (y : Value) : (w.setCell ⟨g, i, none⟩ y).cell? ⟨b, o, none⟩ = some x := by
  have := World.cell?_of_block (putL_block g hne [y] w i) (a := ⟨b, o, none⟩)
  exact (this.trans h)
theorem Box4.put4 {w : World} {b o g : Nat} {y0 y1 y2 y3 : Value} (h : Box4 w b o y0 y1 y2 y3) (hne : b ≠ g) (i : Nat) (x0 x1 x2 x3 : Value) : Box4 (Att.put4 w g i x0 x1 x2 x3) b o y0 y1 y2 y3 :=
  ⟨cell_set (cell_set (cell_set (cell_set h.1 hne _ _) hne _ _) hne _ _) hne _ _, cell_set (cell_set (cell_set (cell_set h.2.1 hne _ _) hne _ _) hne _ _) hne _ _, cell_set (cell_set (cell_set (cell_set h.2.2.1 hne _ _) hne _ _) hne _ _) hne _ _, cell_set (cell_set (cell_set (cell_set h.2.2.2 hne _ _) hne _ _) hne _ _) hne _ _⟩
theorem Bx.put4 {w : World} {b g : Nat} {cs : List Value} (h : Bx w b cs) (hne : b ≠ g) (i : Nat) (x0 x1 x2 x3 : Value) : Bx (Att.put4 w g i x0 x1 x2 x3) b cs := (((h.set1 hne _ x0).set1 hne _ x1).set1 hne _ x2).set1 hne _ x3
/-- A row of n elements of four cells, from block B on, that may be written. -/
def RowOk (t : TypeId) (B : Nat) (w : World) (a : Option Addr) (n : Nat) : Prop := n = 0 ∨ ∃ g S, a = some ⟨g, 0, none⟩ ∧ B ≤ g ∧ n * 4 ≤ S ∧ Rt w g S t
theorem RowOk.ext {t : TypeId} {B : Nat} {w w' : World} {a : Option Addr} {n : Nat} (h : RowOk t B w a n) (x : Ext w w') : RowOk t B w' a n := by
  rcases h with h | ⟨g, S, h1, h2, h3, h4⟩
  · exact .inl h
  · exact .inr ⟨g, S, h1, h2, h3, h4.ext x⟩
theorem RowOk.mono {t : TypeId} {B B' : Nat} {w : World} {a : Option Addr} {n : Nat} (h : RowOk t B w a n) (hB : B' ≤ B) : RowOk t B' w a n := by
  rcases h with h | ⟨g, S, h1, h2, h3, h4⟩
  · exact .inl h
  · exact .inr ⟨g, S, h1, Nat.le_trans hB h2, h3, h4⟩
theorem RowOk.put4 {t : TypeId} {B : Nat} {w : World} {a : Option Addr} {n : Nat} (h : RowOk t B w a n) (g o : Nat) (x0 x1 x2 x3 : Value) : RowOk t B (Att.put4 w g o x0 x1 x2 x3) a n := by
  rcases h with h | ⟨g', S, h1, h2, h3, h4⟩
  · exact .inl h
  · exact .inr ⟨g', S, h1, h2, h3, h4.put4 g o x0 x1 x2 x3⟩
theorem OwnRow.rowOk {α : Type} {T : World → Value → α → Prop} {t : TypeId} {B : Nat} {w : World} {a : Option Addr} {n c : Nat} {l : List α} (h : OwnRow 4 T t B w (.slice a n c) l) : RowOk t B w a n := by
  obtain ⟨E, ⟨h1, h2⟩, hp⟩ := h
  rcases h2 with ⟨h2, h3⟩ | ⟨g, cap', cur, hv, hb, hg, hnc, hcm, hcs, ht⟩
  · simp only [Value.slice.injEq] at h2
    exact .inl h2.2.1
  · simp only [Value.slice.injEq] at hv
    obtain ⟨rfl, rfl, rfl⟩ := hv
    exact .inr ⟨g, cur.size, rfl, hb, by rw [hcs]; exact Nat.mul_le_mul_right 4 hnc, cur, rfl, hg⟩
/-- Block LB, cells of type u, lists four rows of type t. -/
def LT (t u : TypeId) (B : Nat) (w : World) (LB : Nat) : Prop := Rt w LB 16 u ∧ ∀ j, j < 4 → ∃ a n k s b m d b' m' d', n ≤ 100 ∧ Box4 w LB (j * 4) (.slice a n k) (.bool s) (.slice b m d) (.slice b' m' d') ∧ RowOk t B w a n
theorem LT.ext {t u : TypeId} {B LB : Nat} {w w' : World} (h : LT t u B w LB) (x : Ext w w') : LT t u B w' LB :=
  ⟨h.1.ext x, fun j hj => by
    obtain ⟨a, n, k, s, b, m, d, b', m', d', h1, h2, h3⟩ := h.2 j hj
    exact ⟨a, n, k, s, b, m, d, b', m', d', h1, h2.ext x, h3.ext x⟩⟩
theorem LT.put4 {t u : TypeId} {B LB g S : Nat} {w : World} (h : LT t u B w LB) (hg : Rt w g S t) (ht : t ≠ u) (o : Nat) (x0 x1 x2 x3 : Value) : LT t u B (Att.put4 w g o x0 x1 x2 x3) LB :=
  ⟨h.1.put4 g o x0 x1 x2 x3, fun j hj => by
    obtain ⟨a, n, k, s, b, m, d, b', m', d', h1, h2, h3⟩ := h.2 j hj
    exact ⟨a, n, k, s, b, m, d, b', m', d', h1, h2.put4 (h.1.ne hg (Ne.symm ht)) o x0 x1 x2 x3, h3.put4 g o x0 x1 x2 x3⟩⟩
theorem LT.new {t u : TypeId} {B : Nat} {w : World} {a0 a1 a2 a3 b0 b1 b2 b3 e0 e1 e2 e3 : Option Addr} {n0 n1 n2 n3 k0 k1 k2 k3 m0 m1 m2 m3 d0 d1 d2 d3 o0 o1 o2 o3 f0 f1 f2 f3 : Nat} {s0 s1 s2 s3 : Bool} (h0 : RowOk t B w a0 n0) (h1 : RowOk t B w a1 n1) (h2 : RowOk t B w a2 n2) (h3 : RowOk t B w a3 n3) (l0 : n0 ≤ 100) (l1 : n1 ≤ 100) (l2 : n2 ≤ 100) (l3 : n3 ≤ 100) :
    LT t u B (w.alloc (.cells #[.slice a0 n0 k0, .bool s0, .slice b0 m0 d0, .slice e0 o0 f0, .slice a1 n1 k1, .bool s1, .slice b1 m1 d1, .slice e1 o1 f1, .slice a2 n2 k2, .bool s2, .slice b2 m2 d2, .slice e2 o2 f2, .slice a3 n3 k3, .bool s3, .slice b3 m3 d3, .slice e3 o3 f3] u)) w.heap.size := by
  obtain ⟨W, hW, b, c, -, -⟩ := bx1 w [.slice a0 n0 k0, .bool s0, .slice b0 m0 d0, .slice e0 o0 f0, .slice a1 n1 k1, .bool s1, .slice b1 m1 d1, .slice e1 o1 f1, .slice a2 n2 k2, .bool s2, .slice b2 m2 d2, .slice e2 o2 f2, .slice a3 n3 k3, .bool s3, .slice b3 m3 d3, .slice e3 o3 f3] u
  have hr := Rt.new w [.slice a0 n0 k0, .bool s0, .slice b0 m0 d0, .slice e0 o0 f0, .slice a1 n1 k1, .bool s1, .slice b1 m1 d1, .slice e1 o1 f1, .slice a2 n2 k2, .bool s2, .slice b2 m2 d2, .slice e2 o2 f2, .slice a3 n3 k3, .bool s3, .slice b3 m3 d3, .slice e3 o3 f3] u
  rw [← hW] at hr
  rw [show (w.alloc (.cells #[.slice a0 n0 k0, .bool s0, .slice b0 m0 d0, .slice e0 o0 f0, .slice a1 n1 k1, .bool s1, .slice b1 m1 d1, .slice e1 o1 f1, .slice a2 n2 k2, .bool s2, .slice b2 m2 d2, .slice e2 o2 f2, .slice a3 n3 k3, .bool s3, .slice b3 m3 d3, .slice e3 o3 f3] u)) = W from hW.symm]
  refine ⟨hr, fun j hj => ?_⟩
  have : j = 0 ∨ j = 1 ∨ j = 2 ∨ j = 3 := by omega
  rcases this with rfl | rfl | rfl | rfl
  · exact ⟨a0, n0, k0, s0, b0, m0, d0, e0, o0, f0, l0, ⟨c 0 _ rfl, c 1 _ rfl, c 2 _ rfl, c 3 _ rfl⟩, h0.ext b⟩
  · exact ⟨a1, n1, k1, s1, b1, m1, d1, e1, o1, f1, l1, ⟨c 4 _ rfl, c 5 _ rfl, c 6 _ rfl, c 7 _ rfl⟩, h1.ext b⟩
  · exact ⟨a2, n2, k2, s2, b2, m2, d2, e2, o2, f2, l2, ⟨c 8 _ rfl, c 9 _ rfl, c 10 _ rfl, c 11 _ rfl⟩, h2.ext b⟩
  · exact ⟨a3, n3, k3, s3, b3, m3, d3, e3, o3, f3, l3, ⟨c 12 _ rfl, c 13 _ rfl, c 14 _ rfl, c 15 _ rfl⟩, h3.ext b⟩
theorem RowOk.putT {t u : TypeId} {B c m : Nat} {w : World} {a : Option Addr} {n : Nat} (h : RowOk t B w a n) (hr : Rt w c m u) (ht : t ≠ u) (i : Nat) (cs : List Value) : RowOk t B (Att.putL w c i cs) a n := by
  rcases h with h | ⟨g, S, h1, h2, h3, h4⟩
  · exact .inl h
  · exact .inr ⟨g, S, h1, h2, h3, h4.putL (h4.ne hr ht) i cs⟩
/-- One block laid, and what else stands. -/
theorem meet4r {w0 wv : World} {B : Nat} {u : TypeId} (rB : Rt wv B 4 u) (hx : Ext w0 wv) (hB : w0.heap.size ≤ B) {x0 x1 x2 x3 : Value} {Q : World → Prop} (hQ : ∀ w b cs, Rt w b 4 u → Q w → Q (Att.putL w b 0 cs)) (q0 : Q wv) :
    ∃ W, W = (((wv.setCell ⟨B, 0, none⟩ x0).setCell ⟨B, 1, none⟩ x1).setCell ⟨B, 2, none⟩ x2).setCell ⟨B, 3, none⟩ x3 ∧ Ext w0 W ∧ Hid (Bx W B [x0, x1, x2, x3]) ∧ Hid (Q W) :=
  ⟨Att.putL wv B 0 [x0, x1, x2, x3], rfl, putL_below hB _ _ hx, Lib.hid (rB.putL_at [x0, x1, x2, x3] rfl).1, Lib.hid (hQ _ _ _ rB q0)⟩
/-- An expression whose terms may be overwritten. -/
def RsX (t : TypeId) (B : Nat) (w : World) (v : Value) : Prop := ∃ a n k s b m d b' m' d', v = .agg #[.slice a n k, .bool s, .slice b m d, .slice b' m' d'] ∧ n ≤ 100 ∧ RowOk t B w a n
theorem RsX.ext {t : TypeId} {B : Nat} {w w' : World} {v : Value} (h : RsX t B w v) (x : Ext w w') : RsX t B w' v := by
  obtain ⟨a, n, k, s, b, m, d, b', m', d', h1, h2, h3⟩ := h
  exact ⟨a, n, k, s, b, m, d, b', m', d', h1, h2, h3.ext x⟩
theorem OwnEx.rs {e t : TypeId} {B B' : Nat} {w : World} {v : Value} {l : TL} {c : Rat} (h : OwnEx e t B w v l c) (hB : B' ≤ B) (hl : l.length ≤ 100) : RsX t B' w v := by
  obtain ⟨a, k, s, b, m, d, b', m', d', rfl, -, -, h1⟩ := h.op
  obtain ⟨_, _, _, _, he, h2, -⟩ := h1.out
  simp only [Value.agg.injEq, Array.mk.injEq, List.cons.injEq, and_true] at he
  obtain ⟨rfl, rfl, rfl, rfl⟩ := he
  exact ⟨a, l.length, k, s, b, m, d, b', m', d', rfl, hl, h2.rowOk.mono hB⟩
end Go.Att
