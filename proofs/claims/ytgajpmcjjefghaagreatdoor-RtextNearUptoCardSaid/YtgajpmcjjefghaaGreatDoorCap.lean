/- A drawn region in which blocks are made beside calls: each state of the region is proved once. Nothing here names the program. -/
import Derived.Test.YtgajpmcjjefghaaGreatDoorBox
import Derived.Deep.RegionHeld3
namespace Go.Att
open Go.RowKit

theorem region_cap {P : Program} {id : Nat} {ops : Array Oper} {Q : Exit → Act → World → Prop} {a : Act} {w : World}
    (k : ∀ (O : Array Oper) (Q' : Exit → Act → World → Prop), Hid (O = ops) → Hid (Q' = Q) → (Code.region id O true).wp P Q' a w) : (Code.region id ops true).wp P Q a w := k ops Q rfl rfl
theorem wpAnyH_to {P : Program} {md : Region.Mode} {ops : Array Oper} {Q : Exit → Act → World → Prop} {S : World → Prop} {n n' : Nat} {l l' : Array Bool} {t t' : Array Value} {d d' : List Deferred} {w : World}
    (h : wpAnyH P md ops Q S n' l' ⟨t', d'⟩ w) (hn : n = n') (hl : l = l') (ht : t = t') (hd : d = d') : wpAnyH P md ops Q S n l ⟨t, d⟩ w := by subst hn hl ht hd; exact h
theorem anyH_cap {P : Program} {md : Region.Mode} {ops : Array Oper} {Q : Exit → Act → World → Prop} {S : World → Prop} {n : Nat} {l : Array Bool} {a : Act} {w : World}
    (k : ∀ (O : Array Oper) (Q' : Exit → Act → World → Prop) (A : Act), Hid (O = ops) → Hid (Q' = Q) → Hid (A = a) → wpAnyH P md O Q' S n l A w) : wpAnyH P md ops Q S n l a w := k ops Q a rfl rfl rfl
theorem wpAnyH_at {P : Program} {md : Region.Mode} {ops : Array Oper} {Q : Exit → Act → World → Prop} {S : World → Prop} {n n' : Nat} {l l' : Array Bool} {a a' : Act} {w : World}
    (h : wpAnyH P md ops Q S n' l' a' w) (hn : n = n') (hl : l = l') (ha : a = a') : wpAnyH P md ops Q S n l a w := by subst hn hl ha; exact h
/-- Block b: n cells of type t that may be written. -/
def Rt (w : World) (b n : Nat) (t : TypeId) : Prop := ∃ cs : Array Value, cs.size = n ∧ w.heap[b]? = some (.cells cs t (0, 0))
theorem Rt.rm {w : World} {b n : Nat} {t : TypeId} (h : Rt w b n t) : Rm w b n := by
  obtain ⟨cs, hn, h⟩ := h
  exact ⟨cs, t, hn, h⟩
theorem Rt.lt {w : World} {b n : Nat} {t : TypeId} (h : Rt w b n t) : b < w.heap.size := h.rm.lt
theorem Rt.ext {w w' : World} {b n : Nat} {t : TypeId} (h : Rt w b n t) (e : Ext w w') : Rt w' b n t := by
  obtain ⟨cs, hn, h⟩ := h
  exact ⟨cs, hn, by rw [e.block b (Array.getElem?_eq_some_iff.1 h).1]; exact h⟩
theorem Rt.new (w : World) (cs : List Value) (t : TypeId) : Rt (w.alloc (.cells cs.toArray t)) w.heap.size cs.length t := ⟨cs.toArray, by simp, by show (w.heap.push _)[w.heap.size]? = _; simp⟩
theorem Rt.putL {w : World} {b n : Nat} {t : TypeId} (h : Rt w b n t) {c : Nat} (hne : b ≠ c) (i : Nat) (l : List Value) : Rt (putL w c i l) b n t := by
  obtain ⟨cs, hn, h⟩ := h
  exact ⟨cs, hn, by rw [putL_block c hne]; exact h⟩
theorem Rt.putL_at {w : World} {c n : Nat} {t : TypeId} (h : Rt w c n t) (l : List Value) (hl : l.length = n) : Bx (Att.putL w c 0 l) c l ∧ Rt (Att.putL w c 0 l) c n t := by
  refine ⟨(Bx.putL_at h.rm l hl).1, ?_⟩
  obtain ⟨cs, hn, h⟩ := h
  obtain ⟨cs', h1, h2, -, -⟩ := putL_row l 0 h (by omega)
  exact ⟨cs', by omega, h1⟩
theorem owns_putT {w : World} {B c m : Nat} {e t : TypeId} {size : Nat} {v : Value} {n : Nat} {xs : List Value} (o : w.ownsRow B e size v n xs) (hc : Rt w c m t) (hne : e ≠ t) (i : Nat) (l : List Value) : (putL w c i l).ownsRow B e size v n xs := by
  rcases o with ⟨h1, h2 | ⟨g, cap, cur, hv, hg, hh, r⟩⟩
  · exact ⟨h1, .inl h2⟩
  · have hgc : g ≠ c := fun h => by
      obtain ⟨cs, _, h3⟩ := hc
      rw [h, h3] at hh
      simp at hh
      exact hne hh.2.symm
    exact ⟨h1, .inr ⟨g, cap, cur, hv, hg, by rw [putL_block _ hgc]; exact hh, r⟩⟩
theorem OwnL.putT {e t : TypeId} {B c m : Nat} {w : World} {v : Value} {xs : List Nat} (h : OwnL e B w v xs) (hc : Rt w c m t) (hne : e ≠ t) (i : Nat) (l : List Value) : OwnL e B (Att.putL w c i l) v xs := ⟨owns_putT h.1 hc hne i l, h.2⟩
theorem OwnB.putT {e t : TypeId} {B c m : Nat} {w : World} {v : Value} {xs : List Bool} (h : OwnB e B w v xs) (hc : Rt w c m t) (hne : e ≠ t) (i : Nat) (l : List Value) : OwnB e B (Att.putL w c i l) v xs := owns_putT h hc hne i l
theorem OwnQ.putT {e t : TypeId} {B c m : Nat} {w : World} {v : Value} {q : Rat} (h : OwnQ e B w v q) (hc : Rt w c m t) (hne : e ≠ t) (i : Nat) (l : List Value) : OwnQ e B (Att.putL w c i l) v q := by
  obtain ⟨n, d, rfl, h1, h2⟩ := h
  exact ⟨n, d, rfl, h1.putT hc hne i l, h2.putT hc hne i l⟩
theorem OwnP.putT {e t : TypeId} {B c m : Nat} {w : World} {v : Value} {q : Rat} (h : OwnP e B w v q) (hc : Rt w c m t) (hne : e ≠ t) (i : Nat) (l : List Value) : OwnP e B (Att.putL w c i l) v q := by
  obtain ⟨n, d, rfl, h1, h2⟩ := h
  exact ⟨n, d, rfl, h1.putT hc hne i l, h2.putT hc hne i l⟩
/-- Two new blocks hold x and y, whose lists are new too. -/
def TwoQ (e : TypeId) (w0 w : World) (B C : Nat) (n d n' d' : Value) (x y : Rat) : Prop := Ext w0 w ∧ Box3 w B (.bool (decide (x.num < 0))) n d ∧ Box3 w C (.bool (decide (y.num < 0))) n' d' ∧
  OwnQ e w0.heap.size w (.agg #[.bool (decide (x.num < 0)), n, d]) x ∧ OwnQ e w0.heap.size w (.agg #[.bool (decide (y.num < 0)), n', d']) y
theorem TwoQ.mk {e t : TypeId} {w0 w : World} {B C : Nat} {n d n' d' : Value} {x y : Rat} (hne : e ≠ t) (hX : Ext w0 w) (rB : Rt w B 3 t) (rC : Rt w C 3 t) (sB : w0.heap.size ≤ B) (sC : w0.heap.size ≤ C) (hBC : B ≠ C)
    (p : OwnQ e w0.heap.size w (.agg #[.bool (decide (x.num < 0)), n, d]) x) (q : OwnQ e w0.heap.size w (.agg #[.bool (decide (y.num < 0)), n', d']) y) :
    TwoQ e w0 (put3 (put3 w B (.bool (decide (x.num < 0))) n d) C (.bool (decide (y.num < 0))) n' d') B C n d n' d' x y := by
  have r1 := rC.putL (Ne.symm hBC) 0 [.bool (decide (x.num < 0)), n, d]
  refine ⟨put3_below (put3_below hX sB _ _ _) sC _ _ _, ((rB.putL_at [_, _, _] rfl).1.put3 hBC _ _ _).c3, (r1.putL_at [_, _, _] rfl).1.c3, ?_, ?_⟩
  · exact (p.putT rB hne 0 [_, _, _]).putT r1 hne 0 [_, _, _]
  · exact (q.putT rB hne 0 [_, _, _]).putT r1 hne 0 [_, _, _]
end Go.Att
