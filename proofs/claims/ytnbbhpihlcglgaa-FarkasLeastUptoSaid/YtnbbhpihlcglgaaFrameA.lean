/- A row of constraints as it comes in, opened. -/
import Derived.Test.YtnbbhpihlcglgaaFrameE
import Derived.Test.YtnbbhpihlcglgaaAtom
namespace Go.Proofs.Ytnbbhpihlcglgaa
open Go.ChangeShapes Go.WideShapes Go.ChangeAt Go.RowKit Go.Att Go.Joins

def mxl : List (Int × NN) → Nat
  | [] => 0
  | t :: l => max (bN t.2) (mxl l)
theorem mxl_in : ∀ {l : List (Int × NN)} {t : Int × NN}, t ∈ l → bN t.2 ≤ mxl l
  | x :: l, t, h => by
    unfold mxl
    rcases List.mem_cons.1 h with rfl | h
    · omega
    · have := mxl_in h; omega
theorem mxl_le : ∀ {l : List (Int × NN)} {B : Nat}, (∀ t ∈ l, bN t.2 ≤ B) → mxl l ≤ B
  | [], _, _ => Nat.zero_le _
  | x :: l, B, h => by
    unfold mxl
    have h1 := h x List.mem_cons_self
    have h2 := mxl_le (l := l) fun t ht => h t (List.mem_cons_of_mem _ ht)
    omega
def bA (p : NAT) : Nat := max (bN p.1.2) (mxl p.1.1)
set_option maxRecDepth 100000 in
theorem trod_A {H : Type} {enc : TypeId × Value → H} {W : World} {spare : Nat → Bool} {held : Bool} {fuel : Nat} {cs : List Value} {y : DataW H × List MemPlace}
    (h : DataW.trod enc Try.prog W 0 spare held fuel 188 cs = some y) :
    ∃ p : NAT, cs.length = 5 ∧ RdNA W (.agg cs.toArray) p ∧ bA p ≤ Rows.uptoBulk y.1 := by
  obtain ⟨y0, y1, n, rfl, hl, h0, h1⟩ := trod_struct2 Try.underlying188 h
  have e0 : Try.prog.cellsOf 60 = 4 := by kernel_rfl
  have e1 : Try.prog.cellsOf 3 = 1 := by kernel_rfl
  dsimp only at h0 h1
  rw [e0] at h0
  rw [e1] at h1
  have hl5 : cs.length = 5 := hl.trans (by kernel_rfl)
  match cs, hl5 with
  | [c0, c1, c2, c3, c4], _ =>
    simp only [List.drop_zero, List.drop_succ_cons, List.take_succ_cons, List.take_zero] at h0 h1
    obtain ⟨z, e4, rfl, wz⟩ := DataW.trod_int Try.underlying3 h1
    simp at e4
    subst e4
    obtain ⟨l, n, -, r, b1, b2, -⟩ := trod_E h0
    refine ⟨((l, n), z), rfl, ⟨_, _, _, _, rfl, r⟩, ?_⟩
    have := mxl_le b1
    simp only [Rows.uptoBulk, Rows.uptoBulkAll, bA]
    omega
set_option maxRecDepth 100000 in
theorem open_rowA {H : Type} {enc : TypeId × Value → H} {W : World} {spare : Nat → Bool} {held : Bool} {t : TypeId} {v : Value} {r : Reach} {b0 : Nat} {d : DataW H} {ps : List MemPlace} (ht : Try.prog.underlying t = some (.slice 188))
    (hval : Value.okWide Try.prog W r b0 t v) (h : DataW.Trod enc Try.prog W 0 spare held t v d ps) :
    ∃ l : List NAT, RdRow 5 RdNA W v l ∧ (∀ p ∈ l, bA p ≤ Rows.uptoBulk d) ∧ l.length + 1 ≤ Rows.uptoBulk d := by
  obtain ⟨a0, len0, cap0, rfl⟩ := okWide_slice ht hval
  obtain ⟨fuel, hf⟩ := h
  exact row_of ht (by kernel_rfl) (by decide) (fun n cs y hy => trod_A hy) (by simpa [Value.cells] using hf)
end Go.Proofs.Ytnbbhpihlcglgaa
