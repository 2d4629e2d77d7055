/- attestlaw09.List -/
import Derived.Test.YtnbbhpihlcglgaaPAtomY
namespace Go.Proofs.Ytnbbhpihlcglgaa
open Go.RowKit Go.Att

theorem etBt : ElemT Try.prog 105 191 (.agg #[.slice none 0 0, .bool false, .slice none 0 0, .slice none 0 0, .int .i64 0]) 5 88 := ElemT.mk' Try.underlying105 (by kernel_rfl) rfl (by decide)
set_option maxRecDepth 100000 in
set_option maxHeartbeats 4000000 in
set_option linter.unusedSimpArgs false in
theorem list9_any {w : World} {v : Value} {l : List AT} (hv : RdRow 5 OwnA w v l) (hs : ∀ a ∈ l, Smx a.1.1 a.1.2) (hl : l.length ≤ 1000) :
    Calls Try.prog 59 #[v] w (Gives w fun v' w' => OwnRow 5 OwnB9 191 w.heap.size w' v' l) := by
  refine via fun R hR => ?_
  have HS := Lib.hid hs
  obtain ⟨a, c, rfl, hlc, hcm⟩ := hv.shape
  have HV := Lib.hid hv
  unfold maxLen at hcm
  clear hv hs
  go_enter Try.func59, Try.ntmps59
  go_wp2_with fail
  go_loopw [3, 9] (fun o i wr => ∃ k : Nat, i = .int .i64 k ∧ k ≤ l.length ∧ Ext w wr ∧ Hid (OwnRow 5 OwnB9 191 w.heap.size wr o (l.take k))) (fun _ i _ => l.length - (intOf i).toNat)
  case atStart => exact ⟨0, rfl, Nat.zero_le _, Ext.alloc _ _, by rw [List.take_zero]; exact OwnRow.nilLit _ (Nat.le_refl _)⟩
  case round =>
    obtain ⟨k, rfl, hk, hx, hO⟩ := hrel
    by_cases hlt : k < l.length
    · have hd : decide ((k : Int) < (l.length : Int)) = true := decide_eq_true (by omega)
      obtain ⟨bA, oA, xa, xk, xs, xb, xm, xd, xb', xm', xd', hae, hbo, hax⟩ := HV.out.atm k hlt
      subst hae
      obtain ⟨u0, u1, u2, u3, u4⟩ := (hbo.ext hx).c5
      have hJ1 : IntKind.i64.wrap (k : Int) = (k : Int) := by rw [IntKind.wrap_i64]; omega
      have hJ2 : (0 : Int) ≤ (k : Int) ∧ (k : Int) < (l.length : Int) := ⟨by omega, by omega⟩
      have HTK : Hid (l.take (k + 1) = l.take k ++ [l[k]]) := (List.take_append_getElem hlt).symm
      have HKL : Hid ((l.take k).length ≤ 1000) := by show _ ≤ _; rw [List.length_take]; omega
      obtain ⟨w4, hw4, b4, c4, -, -⟩ := bx1 wr [.slice xa l[k].1.1.length xk, .bool xs, .slice xb xm xd, .slice xb' xm' xd', .int .i64 l[k].2] 111
      have HW := Lib.hid hw4
      have C4 := Lib.hid c4
      have HTO : Hid (Calls Try.prog 108 #[.agg #[.slice xa l[k].1.1.length xk, .bool xs, .slice xb xm xd, .slice xb' xm' xd', .int .i64 l[k].2]] w4 (Gives w4 fun v' w' => OwnB9 w' v' l[k])) := told9_any ⟨_, _, _, _, rfl, hax.ext (Ext.trans hx b4)⟩ (HS.out _ (List.getElem_mem hlt))
      clear hw4 c4 hbo hax
      generalize l[k].1.1.length = n1 at *
      generalize l[k].2 = o1 at *
      generalize l[k] = q at *
      go_upto_region 5 with (fail)
      rw [← HW.out]
      clear HW u0 u1 u2 u3 u4
      obtain ⟨k0, k1, k2, k3, k4⟩ := C4.out.c5
      go_wp2_with fail
      refine HTO.out.mono ?_
      rintro e w5 ⟨_, rfl, b5, h1⟩
      clear k0 k1 k2 k3 k4
      obtain ⟨a2, kk2, s2, b2, m2, d2, b2', m2', d2', rfl, O1⟩ := h1.op
      have HQ1 := Lib.hid h1
      have b05 := hx.trans (b4.trans b5)
      have hO1 := Lib.hid (hO.out.ext OwnBt.ext (b4.trans b5))
      clear h1 hO
      go_wp2_with (at_builtin; refine append_rowL (y := q) etBt (kdBt (by decide) (by decide)) (by rfl) _ _ (by rfl) w.heap.size (by rfl) _ (by rfl) hO1.out rfl HQ1.out (Below.size b05) (by have := HKL.out; omega) (by unfold maxLen; have := HKL.out; omega) ?_; intro v9 w9 o9 b9 g9)
      go_roundw
      case rel => exact ⟨k + 1, by go_num, by omega, Below.trans b05 b9, by rw [HTK.out]; exact o9⟩
      case measure => simp [intOf] <;> omega
    · obtain rfl : k = l.length := by omega
      have hd : decide ((l.length : Int) < (l.length : Int)) = false := decide_eq_false (by omega)
      rw [List.take_length] at hO
      obtain ⟨ao, ko, he, -, -⟩ := hO.out.rd.shape
      subst he
      go_wp2_with fail
      exact hR.out _ _ (Gives.mk hx hO.out)
end Go.Proofs.Ytnbbhpihlcglgaa
