/- Rows of one type that grow beside each other: where an append leaves its row. Nothing here names the program. -/
import Derived.Test.YtpeeacdnjbcmiaaRowT
namespace Go.Att
open Go.RowKit

/-- An append leaves its row where it lay, or in new memory. -/
theorem append_where {P : Program} (w : World) (base : Nat) (t ty e : TypeId) (i : TypeInfo) (z : Value) (size bytes : Nat) (ht : P.underlying t = some (.slice e)) (hi : P.info? e = some i) (hz : i.zero = some z)
    (hsize : i.size = size) (hby : i.bytes = bytes) (v : Value) (n : Nat) (xs : List Value) (hown : w.ownsRow base e size v n xs)
    (a : Addr) (m c : Nat) (news : List Value) (hl : news.length = m * size) (hnews : ∀ j u, news[j]? = some u → w.cell? (a.add j) = some u) (h1 : ∀ u ∈ news, u.oneCell' = true)
    (h63 : n + m ≤ maxLen) (hbytes : (n + m) * bytes ≤ 140737488355328) (hm : 0 < m) {v' : Value} {w' : World} (hr : (Builtin.append_ #[t, t] ty #[v, .slice (some a) m c]).run P w = .ok v' w') :
    ∀ g, v'.ownBlock = some g → v.ownBlock = some g ∨ w.heap.size ≤ g := by
  subst hsize
  subst hby
  have hsmall : n + m ≤ 9223372036854775807 := by simp only [maxLen] at h63; omega
  intro g0 hg0
  rcases hown.2 with ⟨rfl, rfl⟩ | ⟨g, cap, cur, rfl, hbg, hg, hnc, hcm, hcs, htake⟩
  · have h := run_append_nil (P := P) w t ty e i z ht hi hz a m c news hl hnews hm (by omega) (by have hb := hbytes; simp only [Nat.zero_add] at hb; omega)
    rw [h] at hr
    simp only [Result.ok.injEq] at hr
    rw [← hr.1] at hg0
    simp [Value.ownBlock] at hg0
    exact .inr (Nat.le_of_eq hg0)
  · by_cases hroom : n + m ≤ cap
    · have hfit : n * i.size + news.length ≤ cur.size := by rw [hl, hcs, ← Nat.add_mul]; exact Nat.mul_le_mul_right _ hroom
      have h := run_append_room (P := P) w t ty e i ht hi g n cap cur hg a m c news hl hnews h1 hroom hfit
      rw [h] at hr
      simp only [Result.ok.injEq] at hr
      rw [← hr.1] at hg0
      exact .inl hg0
    · have holds : ∀ j u, xs[j]? = some u → w.cell? ((⟨g, 0, none⟩ : Addr).add j) = some u := hown.cells (g := g) rfl
      have h := run_append_grow (P := P) w t ty e i z ht hi hz ⟨g, 0, none⟩ n cap xs hown.1 holds a m c news hl hnews (by omega) (by omega) (growslice_fits (by omega) hbytes)
      rw [h] at hr
      simp only [Result.ok.injEq] at hr
      rw [← hr.1] at hg0
      simp [Value.ownBlock] at hg0
      exact .inr (Nat.le_of_eq hg0)

/-- append of one struct that lies in a literal of its own; .. and where the row is then. -/
theorem append_rowW {α : Type} {P : Program} {ops : Array Oper} {rest : List Oper} {o : Oper} {a : Act} {Q : Exit → Act → World → Prop} {t e : TypeId} {z : Value} {size bytes : Nat} (ET : ElemT P t e z size bytes) {T : World → Value → α → Prop} (hT : Kd e T)
    (hgd : Region.wanted o (yielded ops a.tmps) = true) (s x : Operand) (ho : o.op = .call { callee := .builtin .append, args := #[s, x], argTypes := #[t, t] }) (B : Nat) {v : Value} {l : List α} (hs : a.eval s = v) {w0 : World} (c : List Value) {t' : TypeId} {y : α}
    (hx : a.eval x = .slice (some ⟨w0.heap.size, 0, none⟩) 1 1) (hown : OwnRow size T e B w0 v l) (hc : c.length = size) (ha : T w0 (.agg c.toArray) y) (hB : B ≤ w0.heap.size) (hl : (l.length + 1) * bytes ≤ 140737488355328) (hm : l.length + 1 ≤ maxLen)
    (h : ∀ v' w', OwnRow size T e B w' v' (l ++ [y]) → Below B w0 w' → (w0.alloc (.cells c.toArray t')).grownBy w' v.ownBlock → (∀ g, v'.ownBlock = some g → v.ownBlock = some g ∨ (w0.alloc (.cells c.toArray t')).heap.size ≤ g) → wpList P ops Q rest (a.put o.dst v') w') : wpList P ops Q (o :: rest) a (w0.alloc (.cells c.toArray t')) := by
  refine wpList_want hgd fun K hK => ?_
  obtain ⟨E, hE, hP⟩ := hown
  have X : Ext w0 (w0.alloc (.cells c.toArray t')) := Ext.alloc _ _
  have hE' := Ext.owns X hE
  obtain ⟨i, hi, hz, hsz, hby⟩ := ET.inf
  have hrd : RdV (w0.alloc (.cells c.toArray t')) (.slice (some ⟨w0.heap.size, 0, none⟩) 1 1) size 1 c := by
    have := RdV.lit w0 c.toArray t' size 1 (by simpa using hc) (by unfold maxLen; omega)
    simpa using this
  have h1 : ∀ u ∈ c, u.oneCell' = true := hT.one ha
  obtain ⟨v', w', hr, h2, h3, -⟩ := run_append_own (P := P) (w0.alloc (.cells c.toArray t')) B t o.type e i z size bytes ET.und hi hz hsz hby ET.cells ET.pos v l.length E.flatten hE' ⟨w0.heap.size, 0, none⟩ 1 1 c (by omega) (hrd.news _ rfl) h1 hm hl (Nat.le_trans hB (Below.size X))
  have hw := append_where (P := P) (w0.alloc (.cells c.toArray t')) B t o.type e i z size bytes ET.und hi hz hsz hby v l.length E.flatten hE' ⟨w0.heap.size, 0, none⟩ 1 1 c (by omega) (hrd.news _ rfl) h1 hm hl (by omega) hr
  have hb : Below B (w0.alloc (.cells c.toArray t')) w' := (Below.refl B _).grown h3 (Nat.le_trans hB (Below.size X)) (fun k hk => (hE'.lt k hk).1)
  unfold Oper.wp execOp
  simp only [ho, resolve, invoke, builtin, Sem.run_bind, Sem.run_pure, Result.andThen_ok, List.map_toArray, List.map_cons, List.map_nil, hs, hx, hr]
  refine hK _ _ (h v' w' (OwnRow.snocT (hP.mono fun _ _ h => hT.ext h X) (fun _ _ h => hT.grown h hE' h3) (by simpa using h2) hc (hT.ext ha X)) (Below.trans ((show Below w0.heap.size w0 _ from X).mono hB) hb) h3 hw)

/-- The rows u and v lie in different blocks. -/
def Apt (v u : Value) : Prop := ∀ g, v.ownBlock = some g → u.ownBlock ≠ some g
theorem Apt.symm {v u : Value} (h : Apt v u) : Apt u v := fun g h1 h2 => h g h2 h1
theorem OwnRow.lt {α : Type} {k B : Nat} {T : World → Value → α → Prop} {e : TypeId} {w : World} {v : Value} {l : List α} (h : OwnRow k T e B w v l) : ∀ g, v.ownBlock = some g → B ≤ g ∧ g < w.heap.size := by
  obtain ⟨E, hE, -⟩ := h
  exact hE.lt
theorem OwnRow.apart {α : Type} {k B : Nat} {T : World → Value → α → Prop} {e : TypeId} {w w' : World} {v u : Value} {l : List α} (h : OwnRow k T e B w v l) (ha : Apt v u) (hg : w.grownBy w' u.ownBlock) (hT : ∀ v a, T w v a → T w' v a) : OwnRow k T e B w' v l := by
  obtain ⟨E, hE, hP⟩ := h
  refine ⟨E, hE.kept hg ?_, hP.mono fun _ _ h => hT _ _ h⟩
  cases hv : v.ownBlock with
  | none => exact .inl rfl
  | some g => exact .inr fun h => ha g hv (by rw [← h])
theorem OwnRow.apt {α β : Type} {k k' B B' : Nat} {T : World → Value → α → Prop} {T' : World → Value → β → Prop} {e e' : TypeId} {w : World} {v u : Value} {l : List α} {m : List β} (h : OwnRow k T e B w v l) (h' : OwnRow k' T' e' B' w u m) (hne : e ≠ e') : Apt v u := fun g h1 h2 => by
  obtain ⟨E, ⟨_, o⟩, -⟩ := h
  obtain ⟨E', ⟨_, o'⟩, -⟩ := h'
  rcases o with ⟨rfl, _⟩ | ⟨g1, _, _, rfl, _, hh, _⟩
  · simp [Value.ownBlock] at h1
  · rcases o' with ⟨rfl, _⟩ | ⟨g2, _, _, rfl, _, hh', _⟩
    · simp [Value.ownBlock] at h2
    · simp [Value.ownBlock] at h1 h2
      subst h1 h2
      rw [hh] at hh'
      simp at hh'
      exact hne hh'.2
theorem Bx.grow {w w' : World} {b : Nat} {cs : List Value} {o : Option Nat} (h : Bx w b cs) (hg : w.grownBy w' o) (hne : o ≠ some b) : Bx w' b cs := fun i v hv => hg.cell (h i v hv) fun e => hne e.symm
theorem OwnRow.own {α : Type} {k B : Nat} {T : World → Value → α → Prop} {e : TypeId} {w : World} {v : Value} {l : List α} (h : OwnRow k T e B w v l) : ∃ n xs, w.ownsRow B e k v n xs := by
  obtain ⟨E, hE, -⟩ := h
  exact ⟨_, _, hE⟩
end Go.Att
