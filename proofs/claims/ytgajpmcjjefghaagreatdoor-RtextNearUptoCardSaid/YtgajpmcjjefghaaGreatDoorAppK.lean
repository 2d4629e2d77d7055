/- append inside a drawn region; rows of structs whose lists lie in rows of another type. -/
import Derived.Test.YtgajpmcjjefghaaGreatDoorCap
import Derived.Test.YtgajpmcjjefghaaGreatDoorRow
namespace Go.Att
open Go.RowKit

theorem append_rdK {P : Program} {w : World} {o : Oper} {a : Act} {K : Act → World → Prop} {Q : Exit → Act → World → Prop} {t e : TypeId} {z : Value} {size bytes : Nat} (T : ElemT P t e z size bytes)
    (s x : Operand) (ho : o.op = .call { callee := .builtin .append, args := #[s, x], argTypes := #[t, t] })
    (base : Nat) {v : Value} {n : Nat} {xs : List Value} (hs : a.eval s = v) (hown : w.ownsRow base e size v n xs)
    {v2 : Value} {m : Nat} {news : List Value} (hx : a.eval x = v2) (hr : RdV w v2 size m news) (h1 : ∀ u ∈ news, u.oneCell' = true)
    (h63 : (n + m) * bytes ≤ 140737488355328) (hm63 : n + m ≤ maxLen) (hbase : base ≤ w.heap.size)
    (h : ∀ v' w', w'.ownsRow base e size v' (n + m) (xs ++ news) → Below base w w' → w.grownBy w' v.ownBlock → K (a.put o.dst v') w') : o.wp P a w K Q := by
  obtain ⟨i, hi, hz, hsz, hby⟩ := T.inf
  have hb : ∀ w', w.grownBy w' v.ownBlock → Below base w w' := fun w' hg =>
    (Below.refl base w).grown hg hbase (fun k hk => (hown.lt k hk).1)
  have hr' := hr
  obtain ⟨hlen, ao, cap, rfl, hmc, hcm, hnone, _⟩ := hr'
  cases ao with
  | some ad => exact wp_append_own w s x t ho base e i z size bytes T.und hi hz hsz hby T.cells T.pos v n xs hs hown ad m cap news hx hlen (hr.news ad rfl) h1 hm63 h63 hbase (fun v' w' a1 a2 _ => h v' w' a1 (hb w' a2) a2)
  | none =>
    obtain rfl := hnone rfl
    obtain rfl : m = 0 := by omega
    have hnews : news = [] := List.eq_nil_of_length_eq_zero (by simpa using hlen)
    subst hnews
    have hrun := run_append_owned_none (P := P) w base t o.type e i size T.und hi v n xs hown
    unfold Oper.wp
    simp [execOp, ho, resolve, invoke, builtin, hs, hx, hrun, Result.andThen, Oper.upon]
    exact by simpa using h v w (by simpa using hown) (Below.refl _ _) (World.grownBy.refl _ _)

/-- A row of another type is as it was behind an append. -/
theorem owns_grown {w w' : World} {B B' : Nat} {e e' : TypeId} {size size' : Nat} {v v' : Value} {n n' : Nat} {xs xs' : List Value} (o : w.ownsRow B e size v n xs) (h : w.ownsRow B' e' size' v' n' xs') (hne : e ≠ e') (hg : w.grownBy w' v'.ownBlock) : w'.ownsRow B e size v n xs := by
  rcases o with ⟨h1, h2 | ⟨g, cap, cur, hv, hgB, hh, r⟩⟩
  · exact ⟨h1, .inl h2⟩
  · refine ⟨h1, .inr ⟨g, cap, cur, hv, hgB, ?_, r⟩⟩
    have hlt := (Array.getElem?_eq_some_iff.1 hh).1
    have hng : v'.ownBlock ≠ some g := fun h3 => by
      rcases h with ⟨_, ⟨rfl, _⟩ | ⟨g', cap', cur', rfl, _, hh', _⟩⟩
      · simp [Value.ownBlock] at h3
      · simp [Value.ownBlock] at h3
        subst h3
        rw [hh] at hh'
        simp at hh'
        exact hne hh'.2
    rw [hg.block g hlt (fun h3 => hng h3.symm)]
    exact hh

/-- Two rational numbers side by side, their lists in rows of type e. -/
def OwnDp (e : TypeId) (w : World) (v : Value) (p : Rat × Rat) : Prop := OwnD e 0 w v p.1 p.2
def OwnE (e : TypeId) (B : Nat) (w : World) (v : Value) (a b : Rat) : Prop := ∃ n d m c, v = .agg #[.bool (decide (a.num < 0)), n, d, .bool (decide (b.num < 0)), m, c] ∧ OwnB e B w n (bitsOf a.num.natAbs) ∧ OwnB e B w d (bitsOf a.den) ∧ OwnB e B w m (bitsOf b.num.natAbs) ∧ OwnB e B w c (bitsOf b.den)
def OwnEp (e : TypeId) (w : World) (v : Value) (p : Rat × Rat) : Prop := OwnE e 0 w v p.1 p.2
theorem OwnE.rd {e : TypeId} {B : Nat} {w : World} {v : Value} {a b : Rat} (h : OwnE e B w v a b) : RdE w v a b := by
  obtain ⟨n, d, m, c, rfl, h1, h2, h3, h4⟩ := h
  exact ⟨_, _, _, _, _, _, rfl, ⟨_, _, rfl, h1.rd, h2.rd⟩, ⟨_, _, rfl, h3.rd, h4.rd⟩⟩
theorem OwnD.ext {e : TypeId} {B : Nat} {w w' : World} {v : Value} {a b : Rat} (h : OwnD e B w v a b) (x : Ext w w') : OwnD e B w' v a b := by
  obtain ⟨n, d, m, c, rfl, h1, h2, h3, h4⟩ := h
  exact ⟨_, _, _, _, rfl, h1.ext x, h2.ext x, h3.ext x, h4.ext x⟩
theorem OwnE.ext {e : TypeId} {B : Nat} {w w' : World} {v : Value} {a b : Rat} (h : OwnE e B w v a b) (x : Ext w w') : OwnE e B w' v a b := by
  obtain ⟨n, d, m, c, rfl, h1, h2, h3, h4⟩ := h
  exact ⟨_, _, _, _, rfl, h1.ext x, h2.ext x, h3.ext x, h4.ext x⟩
theorem OwnD.mono {e : TypeId} {B B' : Nat} {w : World} {v : Value} {a b : Rat} (h : OwnD e B w v a b) (hB : B' ≤ B) : OwnD e B' w v a b := by
  obtain ⟨n, d, m, c, rfl, h1, h2, h3, h4⟩ := h
  exact ⟨_, _, _, _, rfl, h1.mono hB, h2.mono hB, h3.mono hB, h4.mono hB⟩
theorem OwnE.mono {e : TypeId} {B B' : Nat} {w : World} {v : Value} {a b : Rat} (h : OwnE e B w v a b) (hB : B' ≤ B) : OwnE e B' w v a b := by
  obtain ⟨n, d, m, c, rfl, h1, h2, h3, h4⟩ := h
  exact ⟨_, _, _, _, rfl, h1.mono hB, h2.mono hB, h3.mono hB, h4.mono hB⟩
theorem OwnDp.ext {e : TypeId} {w w' : World} {v : Value} {p : Rat × Rat} (h : OwnDp e w v p) (x : Ext w w') : OwnDp e w' v p := OwnD.ext h x
theorem OwnEp.ext {e : TypeId} {w w' : World} {v : Value} {p : Rat × Rat} (h : OwnEp e w v p) (x : Ext w w') : OwnEp e w' v p := OwnE.ext h x
theorem OwnDp.grown {e e' : TypeId} {w w' : World} {v v' : Value} {p : Rat × Rat} {B n size : Nat} {xs : List Value} (h : OwnDp e w v p) (hr : w.ownsRow B e' size v' n xs) (hne : e ≠ e') (hg : w.grownBy w' v'.ownBlock) : OwnDp e w' v p := by
  obtain ⟨n, d, m, c, rfl, h1, h2, h3, h4⟩ := h
  exact ⟨_, _, _, _, rfl, ⟨owns_grown h1.1 hr hne hg, h1.2⟩, ⟨owns_grown h2.1 hr hne hg, h2.2⟩, ⟨owns_grown h3.1 hr hne hg, h3.2⟩, ⟨owns_grown h4.1 hr hne hg, h4.2⟩⟩
theorem OwnEp.grown {e e' : TypeId} {w w' : World} {v v' : Value} {p : Rat × Rat} {B n size : Nat} {xs : List Value} (h : OwnEp e w v p) (hr : w.ownsRow B e' size v' n xs) (hne : e ≠ e') (hg : w.grownBy w' v'.ownBlock) : OwnEp e w' v p := by
  obtain ⟨n, d, m, c, rfl, h1, h2, h3, h4⟩ := h
  exact ⟨_, _, _, _, rfl, owns_grown h1 hr hne hg, owns_grown h2 hr hne hg, owns_grown h3 hr hne hg, owns_grown h4 hr hne hg⟩
/-- What an append leaves, where the members' lists lie in rows of another type. -/
theorem OwnRow.snocT {α : Type} {k : Nat} {T : World → Value → α → Prop} {e : TypeId} {B : Nat} {w w' : World} {v' : Value} {l : List α} {a : α} {c : List Value} {E : List (List Value)} (hp : Pw k (fun c a => T w (.agg c.toArray) a) E l) (hT : ∀ v a, T w v a → T w' v a)
    (ho : w'.ownsRow B e k v' (l.length + 1) (E.flatten ++ c)) (hc : c.length = k) (ha : T w (.agg c.toArray) a) : OwnRow k T e B w' v' (l ++ [a]) := by
  refine ⟨E ++ [c], ?_, (hp.mono fun _ _ h => hT _ _ h).app (Pw.one hc (hT _ _ ha))⟩
  rw [List.length_append, List.flatten_append]
  simpa using ho
theorem RdRow.mono {α : Type} {k : Nat} {T S : World → Value → α → Prop} {w : World} {v : Value} {l : List α} (h : RdRow k T w v l) (hTS : ∀ v a, T w v a → S w v a) : RdRow k S w v l := by
  obtain ⟨E, h1, h2⟩ := h
  exact ⟨E, h1, h2.mono fun _ _ h => hTS _ _ h⟩
end Go.Att
