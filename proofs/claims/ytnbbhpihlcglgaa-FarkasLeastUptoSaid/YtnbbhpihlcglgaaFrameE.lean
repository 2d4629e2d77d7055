/- An expression as it comes in (a row of terms and a number), opened. -/
import Derived.Test.YtnbbhpihlcglgaaFrameR
import Derived.Test.YtnbbhpihlcglgaaLinPlain
namespace Go.Proofs.Ytnbbhpihlcglgaa
open Go.ChangeShapes Go.WideShapes Go.ChangeAt Go.RowKit Go.Att Go.Joins

set_option maxRecDepth 100000 in
theorem trod_T {H : Type} {enc : TypeId × Value → H} {W : World} {spare : Nat → Bool} {held : Bool} {fuel : Nat} {cs : List Value} {y : DataW H × List MemPlace}
    (h : DataW.trod enc Try.prog W 0 spare held fuel 171 cs = some y) :
    ∃ t : Int × NN, cs.length = 4 ∧ RdNT W (.agg cs.toArray) t ∧ bN t.2 ≤ Rows.uptoBulk y.1 := by
  obtain ⟨y0, y1, n, rfl, hl, h0, h1⟩ := trod_struct2 Try.underlying171 h
  have e0 : Try.prog.cellsOf 3 = 1 := by kernel_rfl
  have e1 : Try.prog.cellsOf 25 = 3 := by kernel_rfl
  dsimp only at h0 h1
  rw [e0] at h0
  rw [e1] at h1
  have hl4 : cs.length = 4 := hl.trans (by kernel_rfl)
  match cs, hl4 with
  | [c0, c1, c2, c3], _ =>
    simp only [List.drop_zero, List.drop_succ_cons, List.take_succ_cons, List.take_zero] at h0 h1
    obtain ⟨z, e0, rfl, wz⟩ := DataW.trod_int Try.underlying3 h0
    simp at e0
    subst e0
    obtain ⟨b0, b1, b2, s, xs, ys, e2, ⟨y', z', e3, r3⟩, hb⟩ := trod_N h1
    obtain ⟨rfl, rfl, rfl⟩ := agg3_inj e3
    simp only [List.cons.injEq, and_true] at e2
    obtain ⟨rfl, rfl, rfl⟩ := e2
    refine ⟨(z, s, xs, ys), rfl, ⟨_, _, rfl, _, _, rfl, r3⟩, ?_⟩
    simp only [Rows.uptoBulk, Rows.uptoBulkAll, bN]
    omega

set_option maxRecDepth 100000 in
theorem trod_E {H : Type} {enc : TypeId × Value → H} {W : World} {spare : Nat → Bool} {held : Bool} {fuel : Nat} {cs : List Value} {y : DataW H × List MemPlace}
    (h : DataW.trod enc Try.prog W 0 spare held fuel 60 cs = some y) :
    ∃ (l : List (Int × NN)) (n : NN), cs.length = 4 ∧ RdNE W (.agg cs.toArray) l n ∧ (∀ t ∈ l, bN t.2 ≤ Rows.uptoBulk y.1) ∧ bN n ≤ Rows.uptoBulk y.1 ∧ l.length + 1 ≤ Rows.uptoBulk y.1 := by
  obtain ⟨y0, y1, n, rfl, hl, h0, h1⟩ := trod_struct2 Try.underlying60 h
  have e0 : Try.prog.cellsOf 58 = 1 := by kernel_rfl
  have e1 : Try.prog.cellsOf 25 = 3 := by kernel_rfl
  dsimp only at h0 h1
  rw [e0] at h0
  rw [e1] at h1
  have hl4 : cs.length = 4 := hl.trans (by kernel_rfl)
  match cs, hl4 with
  | [c0, c1, c2, c3], _ =>
    simp only [List.drop_zero, List.drop_succ_cons, List.take_succ_cons, List.take_zero] at h0 h1
    obtain ⟨a0, l0, k0, e2⟩ := slice_form Try.underlying58 h0
    simp at e2
    subst e2
    obtain ⟨l, rd, hb, hn⟩ := row_of (T := RdNT) (g := fun t => bN t.2) (k := 4) (d := y0.1) (ps := y0.2) Try.underlying58 (by kernel_rfl) (by decide) (fun n cs y hy => trod_T hy) h0
    obtain ⟨b0, b1, b2, s, xs, ys, e2, r2, hb2⟩ := trod_N h1
    simp only [List.cons.injEq, and_true] at e2
    obtain ⟨rfl, rfl, rfl⟩ := e2
    have r2' := r2
    obtain ⟨y', z', e3, -⟩ := r2'
    obtain ⟨rfl, rfl, rfl⟩ := agg3_inj e3
    refine ⟨l, (s, xs, ys), rfl, ⟨_, _, _, rfl, rd, r2⟩, fun t ht => ?_, ?_, ?_⟩
    · have := hb t ht
      simp only [Rows.uptoBulk, Rows.uptoBulkAll]
      omega
    · simp only [Rows.uptoBulk, Rows.uptoBulkAll, bN]
      omega
    · simp only [Rows.uptoBulk, Rows.uptoBulkAll]
      omega

end Go.Proofs.Ytnbbhpihlcglgaa
