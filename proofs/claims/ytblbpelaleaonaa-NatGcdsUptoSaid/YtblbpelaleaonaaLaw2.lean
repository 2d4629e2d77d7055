/- append to an owned row of numbers: it stays in its block, or moves to a new one. -/
import Derived.Test.YtblbpelaleaonaaLaw
namespace Go.Att
open Go.RowKit

theorem append_ints {P : Program} {w : World} {ops : Array Oper} {rest : List Oper} {o : Oper} {a : Act} {Q : Exit → Act → World → Prop} {t e : TypeId} {k : IntKind} {bytes : Nat} (T : ElemT P t e (.int k 0) 1 bytes)
    (hgd : Region.wanted o (yielded ops a.tmps) = true) (s x : Operand) (ho : o.op = .call { callee := .builtin .append, args := #[s, x], argTypes := #[t, t] })
    (base : Nat) {g n cap : Nat} {xs ys : List Nat} (hs : a.eval s = .slice (some ⟨g, 0, none⟩) n cap) (hown : OwnI k e base w (.slice (some ⟨g, 0, none⟩) n cap) xs)
    {v2 : Value} (hx : a.eval x = v2) (hr : RdI k w v2 ys)
    (h63 : (xs.length + ys.length) * bytes ≤ 140737488355328) (hm63 : xs.length + ys.length ≤ maxLen) (hbase : base ≤ w.heap.size)
    (h : ∀ g' cap' w', (g' = g ∨ w.heap.size ≤ g') → OwnI k e base w' (.slice (some ⟨g', 0, none⟩) (xs.length + ys.length) cap') (xs ++ ys) → Below base w w' → w.grownBy w' (some g) → wpList P ops Q rest (a.put o.dst (.slice (some ⟨g', 0, none⟩) (xs.length + ys.length) cap')) w') : wpList P ops Q (o :: rest) a w := by
  obtain ⟨i, hi, hz, hsz, hby⟩ := T.inf
  have hn : n = xs.length := by
    obtain ⟨_, _, h1, _⟩ := hown.rd.shape
    simp only [Value.slice.injEq] at h1
    exact h1.2.1
  subst hn
  have hg1 : base ≤ g := (World.ownsRow.lt hown g rfl).1
  have hb : ∀ w', w.grownBy w' (some g) → Below base w w' := fun w' hg => (Below.refl base w).grown hg hbase (fun k hk => by cases hk; exact hg1)
  have hr' := hr
  obtain ⟨a2, c2, rfl, hlc, hcm, hnone, _⟩ := hr'.shape
  have hnews : ∀ ad, a2 = some ad → ∀ j u, (ints k ys)[j]? = some u → w.cell? (ad.add j) = some u := RdV.news hr
  cases a2 with
  | none =>
    obtain rfl := hnone rfl
    have hys : ys = [] := List.eq_nil_of_length_eq_zero (by omega)
    subst hys
    refine wpList_want hgd fun K hK' => ?_
    have hrun := run_append_owned_none (P := P) w base t o.type e i 1 T.und hi _ xs.length _ hown
    unfold Oper.wp
    simp [execOp, ho, resolve, invoke, builtin, hs, hx, hrun, Result.andThen]
    exact hK' _ _ (by simpa using h g cap w (.inl rfl) (by simpa using hown) (Below.refl _ _) (World.grownBy.refl _ _))
  | some ad =>
    by_cases hroom : xs.length + ys.length ≤ cap
    · refine wpList_want hgd fun K hK' => ?_
      obtain ⟨w', hrun, r1, r2⟩ := run_append_fits (P := P) w base t o.type e i 1 T.und hi hsz g xs.length cap _ hown ad ys.length c2 (ints k ys) (by rw [len_ints, Nat.mul_one]) (hnews ad rfl) (ints_one _ _) hroom
      unfold Oper.wp
      simp [execOp, ho, resolve, invoke, builtin, hs, hx, hrun, Result.andThen]
      refine hK' _ _ (h g cap w' (.inl rfl) ?_ (hb w' r2) r2)
      unfold OwnI
      rw [ints_app, List.length_append]
      exact r1
    · have holds : ∀ j u, (ints k xs)[j]? = some u → w.cell? ((⟨g, 0, none⟩ : Addr).add j) = some u := World.ownsRow.cells hown rfl
      have hrun := run_append_grow (P := P) w t o.type e i _ T.und hi hz ⟨g, 0, none⟩ xs.length cap (ints k xs) (by rw [len_ints, hsz, Nat.mul_one]) holds ad ys.length c2 (ints k ys) (by rw [len_ints, hsz, Nat.mul_one]) (hnews ad rfl) (by omega) (by unfold maxLen at hm63; omega) (growslice_fits (by omega) (by rw [hby]; exact h63))
      have hge := grownCap_ge w (xs.length + ys.length) cap e
      have hcm2 : grownCap w (xs.length + ys.length) cap e ≤ maxLen := grownCap_le_maxLen w _ cap e hm63
      have hgr : w.grownBy (w.drew.alloc (.cells ((ints k xs).toArray ++ (ints k ys).toArray ++ Builtin.zeroCells (Value.int k 0).cells (grownCap w (xs.length + ys.length) cap e - (xs.length + ys.length))) e)) (some g) :=
        ⟨rfl, rfl, rfl, by simp, fun j hj _ => _root_.Go.heap_alloc_old w.drew _ hj⟩
      have hown2 : OwnI k e base (w.drew.alloc (.cells ((ints k xs).toArray ++ (ints k ys).toArray ++ Builtin.zeroCells (Value.int k 0).cells (grownCap w (xs.length + ys.length) cap e - (xs.length + ys.length))) e)) (.slice (some ⟨w.heap.size, 0, none⟩) (xs.length + ys.length) (grownCap w (xs.length + ys.length) cap e)) (xs ++ ys) := by
        refine ⟨by rw [len_ints, Nat.mul_one], .inr ⟨w.heap.size, _, _, by rw [List.length_append], hbase, heap_alloc_new w.drew _, by rw [List.length_append]; exact hge, hcm2, ?_, ?_⟩⟩
        · simp only [Array.size_append, List.size_toArray, len_ints, size_zeroCells]
          show xs.length + ys.length + (grownCap w (xs.length + ys.length) cap e - (xs.length + ys.length)) * 1 = _
          omega
        · rw [ints_app]
          simp only [Array.toList_append, List.append_assoc]
          rw [← List.append_assoc, List.take_left' (by rw [List.length_append, len_ints, len_ints, List.length_append, Nat.mul_one])]
      have := h w.heap.size _ _ (.inr (Nat.le_refl _)) hown2 (hb _ hgr) hgr
      refine wpList_want hgd fun K hK' => ?_
      unfold Oper.wp execOp
      simp only [ho, resolve, invoke, builtin, Sem.run_bind, Sem.run_pure, Result.andThen_ok, List.map_toArray, List.map_cons, List.map_nil, hs, hx, hrun]
      exact hK' _ _ this
end Go.Att
