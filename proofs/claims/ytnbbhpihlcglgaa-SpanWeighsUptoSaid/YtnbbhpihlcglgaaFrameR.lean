/- Rows of structs as they come in, opened. -/
import Derived.Test.YtnbbhpihlcglgaaFrameD
import Derived.Test.YtnbbhpihlcglgaaRowAll
import Derived.Deep.Slices
namespace Go.Proofs.Ytnbbhpihlcglgaa
open Go.ChangeShapes Go.WideShapes Go.ChangeAt Go.RowKit Go.Att Go.Joins

theorem pw_map {ι α : Type} {k : Nat} {R : List Value → α → Prop} {C : ι → List Value} {A : ι → α} : ∀ (L : List ι), (∀ i ∈ L, (C i).length = k ∧ R (C i) (A i)) → Pw k R (L.map C) (L.map A)
  | [], _ => trivial
  | i :: L, h => ⟨h i (List.mem_cons_self ..), pw_map L fun j hj => h j (List.mem_cons_of_mem _ hj)⟩
theorem bulk_mem {H : Type} : ∀ {l : List (DataW H)} {d : DataW H}, d ∈ l → Rows.uptoBulk d ≤ Rows.uptoBulkAll l
  | x :: r, d, h => by
    rw [bulk_cons]
    rcases List.mem_cons.1 h with rfl | h
    · omega
    · have := bulk_mem h; omega
theorem row_of {H α : Type} [Inhabited α] {enc : TypeId × Value → H} {P : Program} {W : World} {spare : Nat → Bool} {held : Bool} {t e : TypeId} {k : Nat} {T : World → Value → α → Prop} {g : α → Nat} {a0 : Option Addr} {len0 cap0 fuel : Nat} {d : DataW H} {ps : List MemPlace}
    (ht : P.underlying t = some (.slice e)) (hC : P.cellsOf e = k) (hk : 0 < k)
    (hel : ∀ n cs y, DataW.trod enc P W 0 spare held n e cs = some y → ∃ a : α, cs.length = k ∧ T W (.agg cs.toArray) a ∧ g a ≤ Rows.uptoBulk y.1)
    (h : DataW.trod enc P W 0 spare held fuel t [.slice a0 len0 cap0] = some (d, ps)) :
    ∃ l : List α, RdRow k T W (.slice a0 len0 cap0) l ∧ (∀ a ∈ l, g a ≤ Rows.uptoBulk d) ∧ l.length + 1 ≤ Rows.uptoBulk d := by
  rcases Go.Deep.open_slice ht h with ⟨hcs, hx⟩ | ⟨x, l, c, m, n, D, Pl, hcs, _, hl, hm, hmm, hx, hi⟩
  · simp at hcs
    obtain ⟨rfl, rfl, rfl⟩ := hcs
    exact ⟨[], ⟨[], RdV.nil _ _, trivial⟩, fun a ha => by simp at ha, bulk_one d⟩
  · simp at hcs
    obtain ⟨rfl, rfl, rfl⟩ := hcs
    simp only [Prod.mk.injEq] at hx
    obtain ⟨rfl, _⟩ := hx
    have hlm : len0 ≤ m := by rw [hmm]; split <;> omega
    have h1 : ∀ i, i < len0 → ∃ z : List Value × α, z.1.length = k ∧ T W (.agg z.1.toArray) z.2 ∧ g z.2 ≤ Rows.uptoBulk (D i) ∧ ∀ j, j < k → W.cell? (x.add (i * k + j)) = z.1[j]? := by
      intro i hi0
      obtain ⟨cs', hc, htr⟩ := hi i (by omega)
      obtain ⟨a, hlen, hT, hg⟩ := hel _ _ _ htr
      obtain ⟨_, _, hcell⟩ := World.cells?_some hc
      refine ⟨(cs', a), hlen, hT, hg, fun j hj => ?_⟩
      have := hcell j (by omega)
      rw [hC, Go.Deep.add_add] at this
      exact this
    obtain ⟨Z, hZ⟩ := Go.Deep.choose_lt h1
    have hP : Pw k (fun c a => T W (.agg c.toArray) a) ((List.range len0).map fun i => (Z i).1) ((List.range len0).map fun i => (Z i).2) := pw_map _ fun i hi => ⟨(hZ i (List.mem_range.1 hi)).1, (hZ i (List.mem_range.1 hi)).2.1⟩
    have hQ : Pw k (fun c i => c = (Z i).1) ((List.range len0).map fun i => (Z i).1) ((List.range len0).map id) := pw_map _ fun i hi => ⟨(hZ i (List.mem_range.1 hi)).1, rfl⟩
    refine ⟨(List.range len0).map fun i => (Z i).2, ⟨_, ?_, hP⟩, ?_, ?_⟩
    · have hfl := hP.flat
      simp only [List.length_map, List.length_range] at hfl ⊢
      refine ⟨hfl, some x, cap0, rfl, hl, hm, (fun h => by cases h), fun i hi0 => ?_⟩
      rw [hfl] at hi0
      have hdiv : i / k < len0 := (Nat.div_lt_iff_lt_mul hk).2 hi0
      have hmod : i % k < k := Nat.mod_lt _ hk
      have hid : i / k * k + i % k = i := by rw [Nat.mul_comm]; exact Nat.div_add_mod i k
      obtain ⟨cq, _, e2, e3⟩ := hQ.at (i / k) (by simpa using hdiv)
      have e2' : cq = (Z (i / k)).1 := by simpa using e2
      have hcell := (hZ (i / k) hdiv).2.2.2 (i % k) hmod
      have e4 := e3 (i % k) hmod
      rw [e2', ← hcell, hid] at e4
      have hsome : ∃ u, W.cell? (x.add 0) = some u := by
        have hl0 : 0 < len0 := Nat.lt_of_le_of_lt (Nat.zero_le _) hdiv
        have h0 : 0 < (Z 0).1.length := by rw [(hZ 0 hl0).1]; exact hk
        have h9 := (hZ 0 hl0).2.2.2 0 hk
        rw [Nat.zero_mul] at h9
        exact ⟨_, h9.trans (List.getElem?_eq_getElem h0)⟩
      have hsp : x = ⟨x.block, x.off, none⟩ := by
        obtain ⟨u, h0⟩ := hsome
        obtain ⟨b, o, sp⟩ := x
        cases sp with
        | none => rfl
        | some s =>
          simp [Addr.add, World.cell?] at h0
          split at h0 <;> simp at h0
      refine ⟨x.block, x.off, by rw [← hsp], ?_⟩
      rw [hsp, Addr.add_lit] at e4
      exact e4.symm
    · intro a ha
      obtain ⟨i, hi0, rfl⟩ := List.mem_map.1 ha
      have h2 := (hZ i (List.mem_range.1 hi0)).2.2.1
      have h3 : Rows.uptoBulk (D i) ≤ Rows.uptoBulkAll ((List.range len0).map D) := bulk_mem (List.mem_map.2 ⟨i, hi0, rfl⟩)
      simp only [Rows.uptoBulk]
      omega
    · have := bulk_len ((List.range len0).map D)
      simp only [List.length_map, List.length_range, Rows.uptoBulk] at this ⊢
      omega

def bN (n : NN) : Nat := n.2.1.length + n.2.2.length
def bND (p : NN × NN) : Nat := bN p.1 + bN p.2
set_option maxRecDepth 100000 in
theorem open_rowN {H : Type} {enc : TypeId × Value → H} {W : World} {spare : Nat → Bool} {held : Bool} {t : TypeId} {v : Value} {r : Reach} {b0 : Nat} {d : DataW H} {ps : List MemPlace} (ht : Try.prog.underlying t = some (.slice 25))
    (hval : Value.okWide Try.prog W r b0 t v) (h : DataW.Trod enc Try.prog W 0 spare held t v d ps) :
    ∃ l : List NN, RdRow 3 RdNp W v l ∧ (∀ p ∈ l, bN p ≤ Rows.uptoBulk d) ∧ l.length + 1 ≤ Rows.uptoBulk d := by
  obtain ⟨a0, len0, cap0, rfl⟩ := okWide_slice ht hval
  obtain ⟨fuel, hf⟩ := h
  refine row_of ht (by kernel_rfl) (by decide) (fun n cs y hy => ?_) (by simpa [Value.cells] using hf)
  obtain ⟨x0, x1, x2, s, xs, ys, rfl, r0, hb⟩ := trod_N hy
  exact ⟨(s, xs, ys), rfl, r0, by unfold bN; dsimp only; omega⟩
set_option maxRecDepth 100000 in
theorem open_rowND {H : Type} {enc : TypeId × Value → H} {W : World} {spare : Nat → Bool} {held : Bool} {t e : TypeId} {f0 f1 : Field} {v : Value} {r : Reach} {b0 : Nat} {d : DataW H} {ps : List MemPlace} (hs : Try.prog.underlying t = some (.slice e))
    (ht : Try.prog.underlying e = some (.struct #[f0, f1])) (ht0 : f0.type = 25) (ht1 : f1.type = 25) (ho0 : f0.offset = 0) (ho1 : f1.offset = 3) (hc : Try.prog.cellsOf e = 6)
    (hval : Value.okWide Try.prog W r b0 t v) (h : DataW.Trod enc Try.prog W 0 spare held t v d ps) :
    ∃ l : List (NN × NN), RdRow 6 RdNDp W v l ∧ (∀ p ∈ l, bND p ≤ Rows.uptoBulk d) ∧ l.length + 1 ≤ Rows.uptoBulk d := by
  obtain ⟨a0, len0, cap0, rfl⟩ := okWide_slice hs hval
  obtain ⟨fuel, hf⟩ := h
  refine row_of hs hc (by decide) (fun n cs y hy => ?_) (by simpa [Value.cells] using hf)
  obtain ⟨x0, x1, x2, x3, x4, x5, s, xs, ys, s', xs', ys', rfl, r0, r1, hb⟩ := trod_two ht ht0 ht1 ho0 ho1 hc hy
  exact ⟨((s, xs, ys), (s', xs', ys')), rfl, ⟨_, _, _, _, _, _, rfl, r0, r1⟩, by unfold bND bN; dsimp only; omega⟩
end Go.Proofs.Ytnbbhpihlcglgaa
