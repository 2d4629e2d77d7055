/- Two numbers as they come in, side by side in one struct, opened. -/
import Derived.Test.YtnbbhpihlcglgaaFrameN
import Derived.Test.YtnbbhpihlcglgaaRowAll
import Derived.Deep.Strs
namespace Go.Proofs.Ytnbbhpihlcglgaa
open Go.ChangeShapes Go.WideShapes Go.ChangeAt Go.RowKit Go.Att Go.Joins

set_option maxRecDepth 100000 in
theorem trod_N {H : Type} {enc : TypeId × Value → H} {W : World} {spare : Nat → Bool} {held : Bool} {fuel : Nat} {cs : List Value} {y : DataW H × List MemPlace}
    (h : DataW.trod enc Try.prog W 0 spare held fuel 25 cs = some y) :
    ∃ (x0 x1 x2 : Value) (s : Bool) (xs ys : List Nat), cs = [x0, x1, x2] ∧ RdN W (.agg #[x0, x1, x2]) s xs ys ∧ xs.length + ys.length + 4 ≤ Rows.uptoBulk y.1 := by
  obtain ⟨y0, y1, y2, n, rfl, hl, h0, h1, h2⟩ := Go.Deep.trod_struct3 Try.underlying25 h
  have e0 : Try.prog.cellsOf 4 = 1 := by kernel_rfl
  have e1 : Try.prog.cellsOf 23 = 1 := by kernel_rfl
  dsimp only at h0 h1 h2
  rw [e0] at h0
  rw [e1] at h1 h2
  have hl3 : cs.length = 3 := hl.trans (by kernel_rfl)
  match cs, hl3 with
  | [c0, c1, c2], _ =>
    simp only [List.drop_zero, List.drop_succ_cons, List.take_succ_cons, List.take_zero] at h0 h1 h2
    obtain ⟨s, e0, rfl⟩ := DataW.trod_bool Try.underlying4 h0
    obtain ⟨a1, l1, k1, e1⟩ := slice_form Try.underlying23 h1
    obtain ⟨a2, l2, k2, e2⟩ := slice_form Try.underlying23 h2
    simp at e0 e1 e2
    subst e0 e1 e2
    obtain ⟨xs, rx, fx, lx⟩ := nats_of (d := y1.1) (ps := y1.2) Try.underlying23 Try.underlying163 (by kernel_rfl) rfl h1
    obtain ⟨ys, ry, fy, ly⟩ := nats_of (d := y2.1) (ps := y2.2) Try.underlying23 Try.underlying163 (by kernel_rfl) rfl h2
    refine ⟨_, _, _, s, xs, ys, rfl, ⟨_, _, rfl, ⟨rx, fx⟩, ⟨ry, fy⟩⟩, ?_⟩
    simp only [Rows.uptoBulk, Rows.uptoBulkAll]
    omega

set_option maxRecDepth 100000 in
theorem trod_two {H : Type} {enc : TypeId × Value → H} {W : World} {spare : Nat → Bool} {held : Bool} {fuel : Nat} {t : TypeId} {f0 f1 : Field} {cs : List Value} {y : DataW H × List MemPlace}
    (ht : Try.prog.underlying t = some (.struct #[f0, f1])) (ht0 : f0.type = 25) (ht1 : f1.type = 25) (ho0 : f0.offset = 0) (ho1 : f1.offset = 3) (hc : Try.prog.cellsOf t = 6)
    (h : DataW.trod enc Try.prog W 0 spare held fuel t cs = some y) :
    ∃ (x0 x1 x2 x3 x4 x5 : Value) (s : Bool) (xs ys : List Nat) (s' : Bool) (xs' ys' : List Nat), cs = [x0, x1, x2, x3, x4, x5] ∧ RdN W (.agg #[x0, x1, x2]) s xs ys ∧ RdN W (.agg #[x3, x4, x5]) s' xs' ys' ∧
      xs.length + ys.length + xs'.length + ys'.length + 8 ≤ Rows.uptoBulk y.1 := by
  obtain ⟨y0, y1, n, rfl, hl, h0, h1⟩ := trod_struct2 ht h
  have hN : Try.prog.cellsOf 25 = 3 := by kernel_rfl
  rw [ht0, ho0, hN] at h0
  rw [ht1, ho1, hN] at h1
  have hl6 := hl.trans hc
  match cs, hl6 with
  | [c0, c1, c2, c3, c4, c5], _ =>
    simp only [List.drop_zero, List.drop_succ_cons, List.take_succ_cons, List.take_zero] at h0 h1
    obtain ⟨a0, a1, a2, s, xs, ys, e0, r0, l0⟩ := trod_N h0
    obtain ⟨b0, b1, b2, s', xs', ys', e1, r1, l1⟩ := trod_N h1
    simp only [List.cons.injEq, and_true] at e0 e1
    obtain ⟨rfl, rfl, rfl⟩ := e0
    obtain ⟨rfl, rfl, rfl⟩ := e1
    refine ⟨_, _, _, _, _, _, s, xs, ys, s', xs', ys', rfl, r0, r1, ?_⟩
    simp only [Rows.uptoBulk, Rows.uptoBulkAll]
    omega

set_option maxRecDepth 100000 in
theorem open_two {H : Type} {enc : TypeId × Value → H} {W : World} {spare : Nat → Bool} {held : Bool} {t : TypeId} {f0 f1 : Field} {v : Value} {r : Reach} {b0 : Nat} {d : DataW H} {ps : List MemPlace}
    (ht : Try.prog.underlying t = some (.struct #[f0, f1])) (ht0 : f0.type = 25) (ht1 : f1.type = 25) (ho0 : f0.offset = 0) (ho1 : f1.offset = 3) (hc : Try.prog.cellsOf t = 6)
    (hval : Value.okWide Try.prog W r b0 t v) (h : DataW.Trod enc Try.prog W 0 spare held t v d ps) :
    ∃ (s : Bool) (xs ys : List Nat) (s' : Bool) (xs' ys' : List Nat), RdND W v s xs ys s' xs' ys' ∧ xs.length + ys.length + xs'.length + ys'.length + 8 ≤ Rows.uptoBulk d := by
  obtain ⟨cs, rfl, hsz⟩ := okWide_struct ht hval
  obtain ⟨fuel, hf⟩ := h
  obtain ⟨x0, x1, x2, x3, x4, x5, s, xs, ys, s', xs', ys', e, r0, r1, hb⟩ := trod_two ht ht0 ht1 ho0 ho1 hc hf
  have e' : cs = #[x0, x1, x2, x3, x4, x5] := by
    have e2 : cs.toList = [x0, x1, x2, x3, x4, x5] := by simpa [Value.cells] using e
    obtain ⟨l⟩ := cs
    simp at e2
    rw [e2]
  subst e'
  exact ⟨s, xs, ys, s', xs', ys', ⟨_, _, _, _, _, _, rfl, r0, r1⟩, hb⟩
end Go.Proofs.Ytnbbhpihlcglgaa
