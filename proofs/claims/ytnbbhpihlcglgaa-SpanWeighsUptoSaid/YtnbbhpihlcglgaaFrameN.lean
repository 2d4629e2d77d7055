/- A number as it comes in (a sign and two lists of limbs), opened. -/
import Derived.Test.YtnbbhpihlcglgaaFrame
import Derived.Test.YtnbbhpihlcglgaaRatPlain
import Derived.Lib.SmallJoins
namespace Go.Proofs.Ytnbbhpihlcglgaa
open Go.ChangeShapes Go.WideShapes Go.ChangeAt Go.RowKit Go.Att Go.Joins

set_option maxRecDepth 100000 in
theorem open_N {H : Type} {enc : TypeId × Value → H} {W : World} {spare : Nat → Bool} {held : Bool} {v : Value} {r : Reach} {b0 : Nat} {d : DataW H} {ps : List MemPlace}
    (hval : Value.okWide Try.prog W r b0 25 v) (h : DataW.Trod enc Try.prog W 0 spare held 25 v d ps) :
    ∃ (s : Bool) (xs ys : List Nat), RdN W v s xs ys ∧ xs.length + ys.length + 4 ≤ Rows.uptoBulk d := by
  obtain ⟨c0, c1, c2, y0, y1, y2, n, rfl, rfl, rfl, h0, h1, h2⟩ := open_agg3 Try.underlying25 (by kernel_rfl) (by kernel_rfl) hval h
  obtain ⟨s, e0, rfl⟩ := DataW.trod_bool Try.underlying4 h0
  obtain ⟨a1, l1, k1, e1⟩ := slice_form Try.underlying23 h1
  obtain ⟨a2, l2, k2, e2⟩ := slice_form Try.underlying23 h2
  simp at e0 e1 e2
  subst e0 e1 e2
  obtain ⟨xs, rx, fx, lx⟩ := nats_of (d := y1.1) (ps := y1.2) Try.underlying23 Try.underlying163 (by kernel_rfl) rfl h1
  obtain ⟨ys, ry, fy, ly⟩ := nats_of (d := y2.1) (ps := y2.2) Try.underlying23 Try.underlying163 (by kernel_rfl) rfl h2
  refine ⟨s, xs, ys, ⟨_, _, rfl, ⟨rx, fx⟩, ⟨ry, fy⟩⟩, ?_⟩
  simp only [Rows.uptoBulk, Rows.uptoBulkAll]
  omega
end Go.Proofs.Ytnbbhpihlcglgaa
