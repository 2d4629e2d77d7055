/- lin.Vars -/
import Derived.Test.YtnbbhpihlcglgaaLinAll
import Derived.Test.YtnbbhpihlcglgaaLinPlain
namespace Go.Proofs.Ytnbbhpihlcglgaa
open Go.RowKit Go.Att

theorem etInt9 : ElemT Try.prog 65 3 (.int .i64 0) 1 8 := ElemT.mk' Try.underlying65 (by kernel_rfl) rfl (by decide)
theorem vars_snoc {l : TL} {j : Nat} (hj : j < l.length) : (l.take (j + 1)).map (·.1) = (l.take j).map (·.1) ++ [(gt l j).1] := by
  rw [← List.take_append_getElem hj, List.map_append, gt_lt hj]; rfl
set_option linter.unusedSimpArgs false in
set_option maxHeartbeats 4000000 in
set_option maxRecDepth 100000 in
theorem lvars_any {w : World} {v : Value} {l : TL} {c : Rat} (L : Nat) (hv : RdX w v l c) (hs : ∀ t ∈ l, Sz L t.2) (hl : l.length ≤ 1000) (hL : L ≤ 5000) :
    Calls Try.prog 46 #[v] w (Gives w fun v' w' => ∃ l', Canl l l' ∧ l'.length ≤ l.length ∧ RdRow 1 IntT w' v' (l'.map (·.1))) := by
  refine via fun R hR => ?_
  have HCAN : Hid (∀ w', Ext w w' → Calls Try.prog 38 #[v] w' (Gives w' fun v' w' => ∃ l', Canl l l' ∧ l'.length ≤ l.length ∧ RdX w' v' l' c)) := fun w' x => (canon_any L (hv.ext x) hs hl hL).mono fun _ _ ⟨v, e, b, l', h1, _, h3, o⟩ => ⟨v, e, b, l', h1, h3, OwnEx.rd o⟩
  obtain ⟨a, k, s, b, m, d, b', m', d', rfl, -, -, -, -⟩ := hv.op
  clear hv hs
  obtain ⟨w1, hw1, b1, c1, -, -⟩ := bx1 w [.slice a l.length k, .bool s, .slice b m d, .slice b' m' d'] 63
  have HW := Lib.hid hw1
  have C1 := Lib.hid c1
  clear hw1 c1
  go_enter Try.func46, Try.ntmps46
  go_upto_region 1 with (fail)
  rw [← HW.out]
  clear HW
  obtain ⟨k0, k1, k2, k3⟩ := C1.out.c4
  go_wp2_with fail
  refine (HCAN.out _ b1).mono ?_
  rintro e w2 ⟨_, rfl, b2, l', hcan, hlen, hx⟩
  obtain ⟨a2, kk2, s2, d2, m2, e2, d3, m3, e3, rfl, -, hkm, HRW, -⟩ := hx.op
  have HC := Lib.hid hcan
  clear hcan hx k0 k1 k2 k3
  have hfd : ∀ w : World, (Instr.field 63 (.agg #[.slice a2 l'.length kk2, .bool s2, .slice d2 m2 e2, .slice d3 m3 e3]) 0).run Try.prog w = .ok (.slice a2 l'.length kk2) w := fun _ => by kernel_rfl
  go_wp2_with fail
  go_loopw [3, 10] (fun o t wr => ∃ j : Nat, t = .int .i64 j ∧ j ≤ l'.length ∧ Ext w2 wr ∧ Hid (OwnRow 1 IntT 3 w2.heap.size wr o ((l'.take j).map (·.1)))) (fun _ t _ => l'.length - (intOf t).toNat)
  case atStart => exact ⟨0, rfl, Nat.zero_le _, Ext.refl _, by rw [List.take_zero]; exact OwnRow.nil _ _ _⟩
  case round =>
    obtain ⟨j, rfl, hj, hx, hO⟩ := hrel
    by_cases hjl : j < l'.length
    · have hd : decide ((j : Int) < (l'.length : Int)) = true := decide_eq_true (by omega)
      obtain ⟨bT, oT, rfl⟩ := HRW.out.some_at hjl
      obtain ⟨sx, ax, lx, mx, ay, ly, my, hB4, -⟩ := HRW.out.tm j hjl
      obtain ⟨u0, u1, u2, u3⟩ := hB4.ext hx
      have hJ1 : IntKind.i64.wrap (j : Int) = (j : Int) := by rw [IntKind.wrap_i64]; omega
      have hJ2 : (0 : Int) ≤ (j : Int) ∧ (j : Int) < (l'.length : Int) := ⟨by omega, by omega⟩
      have HSN := Lib.hid (vars_snoc hjl)
      have HOL : Hid (((l'.take j).map (·.1)).length = j) := by show _ = _; rw [List.length_map, List.length_take]; omega
      obtain ⟨y, hy⟩ : ∃ y, (gt l' j).1 = y := ⟨_, rfl⟩
      rw [hy] at HSN u0
      clear hB4 hy
      generalize (l'.take j).map (·.1) = ol at *
      obtain ⟨w4, hw4, b4, c4, -, -⟩ := bx1 wr [.int .i64 y, .bool sx, .slice ax lx mx, .slice ay ly my] 84
      have HW := Lib.hid hw4
      have C4 := Lib.hid c4
      clear hw4 c4
      go_upto_region 5 with (fail)
      rw [← HW.out]
      clear HW u0 u1 u2 u3
      have hO4 := Lib.hid (hO.out.ext IntT.ext b4)
      have k0 := C4.out.c1
      clear hO
      go_wp2_with (at_builtin; refine append_rowL (y := y) etInt9 (kdI _) (by rfl) _ _ (by rfl) w2.heap.size (by rfl) _ (by rfl) hO4.out rfl (show IntT _ _ _ from rfl) (Below.size (Ext.trans hx b4)) (by have := HOL.out; omega) (by have := HOL.out; unfold maxLen; omega) ?_; intro v9 w9 o9 b9 g9)
      go_roundw
      case rel => exact ⟨j + 1, by go_num, by omega, Below.trans (Ext.trans hx b4) b9, by rw [HSN.out]; exact o9⟩
      case measure => simp [intOf] <;> omega
    · obtain rfl : j = l'.length := by omega
      have hd : decide ((l'.length : Int) < (l'.length : Int)) = false := decide_eq_false (by omega)
      rw [List.take_length] at hO
      have RO := Lib.hid hO.out.rd
      obtain ⟨ol, hol⟩ : ∃ ol, l'.map (·.1) = ol := ⟨_, rfl⟩
      have HOL := Lib.hid hol
      rw [hol] at hO RO
      clear hol
      obtain ⟨ao, ko, rfl, -, -⟩ := RO.out.shape
      go_wp2_with fail
      exact hR.out _ _ (Gives.mk (Ext.trans b1 (Ext.trans b2 hx)) ⟨l', HC.out, hlen, by rw [HOL.out]; exact RO.out⟩)
end Go.Proofs.Ytnbbhpihlcglgaa
