/- attestlaw17.List, rats -/
import Derived.Test.YtnbbhpihlcglgaaRowAll
import Derived.Test.YtnbbhpihlcglgaaPTold
namespace Go.Proofs.Ytnbbhpihlcglgaa
open Go.RowKit Go.Att

theorem et17D : ElemT Try.prog 29 34 (.agg #[.bool false, .slice none 0 0, .slice none 0 0, .bool false, .slice none 0 0, .slice none 0 0]) 6 112 := ElemT.mk' Try.underlying29 (by kernel_rfl) rfl (by decide)
theorem etRats : ElemT Try.prog 27 32 (.agg #[.bool false, .slice none 0 0, .slice none 0 0]) 3 56 := ElemT.mk' Try.underlying27 (by kernel_rfl) rfl (by decide)
def qND (p : NN × NN) : Rat × Rat := (qN p.1, qN p.2)
theorem take_map_snoc {α β : Type} (f : α → β) {l : List α} {k : Nat} (h : k < l.length) : (l.take (k + 1)).map f = (l.take k).map f ++ [f l[k]] := by
  rw [← List.take_append_getElem h, List.map_append]; rfl
set_option maxRecDepth 100000 in
set_option maxHeartbeats 2000000 in
set_option linter.unusedSimpArgs false in
theorem list17_any {w : World} {v : Value} {l : List (NN × NN)} (hv : RdRow 6 RdNDp w v l) (hs : ∀ p ∈ l, Nlt 1000000000 p.1 ∧ Nlt 1000000000 p.2) :
    Calls Try.prog 16 #[v] w (Gives w fun v' w' => OwnRow 6 (OwnDp 163) 34 w.heap.size w' v' ((l.take 34).map qND)) := by
  refine via fun R hR => ?_
  have HS := Lib.hid hs
  obtain ⟨a, c, rfl, hlc, hcm⟩ := hv.shape
  have HV := Lib.hid hv
  unfold maxLen at hcm
  clear hv hs
  go_enter Try.func16, Try.ntmps16
  go_wp2_with fail
  go_loopw [3, 4] (fun o i wr => ∃ k : Nat, i = .int .i64 k ∧ k ≤ l.length ∧ k ≤ 34 ∧ Ext w wr ∧ Hid (OwnRow 6 (OwnDp 163) 34 w.heap.size wr o ((l.take k).map qND))) (fun _ i _ => 34 - (intOf i).toNat)
  case atStart => exact ⟨0, rfl, Nat.zero_le _, Nat.zero_le _, Ext.alloc _ _, by rw [List.take_zero]; exact OwnRow.nilLit _ (Nat.le_refl _)⟩
  case round =>
    obtain ⟨k, rfl, hk, hk2, hx, hO⟩ := hrel
    have hsz := hx.size
    by_cases hlt : k < l.length
    · by_cases h34 : k < 34
      · obtain ⟨b, off, cs, rfl, hcl, hT, hc⟩ := HV.out.at (by decide) k hlt
        obtain ⟨x0, x1, x2, x3, x4, x5, rfl⟩ := cells_ND hT
        have e0 := Ext.cell hx (hc 0 (by decide))
        have e1 := Ext.cell hx (hc 1 (by decide))
        have e2 := Ext.cell hx (hc 2 (by decide))
        have e3 := Ext.cell hx (hc 3 (by decide))
        have e4 := Ext.cell hx (hc 4 (by decide))
        have e5 := Ext.cell hx (hc 5 (by decide))
        have HSN := Lib.hid (take_map_snoc qND hlt)
        have HTT := Lib.hid (RdNDp.ext hT hx)
        have HSS := Lib.hid (HS.out l[k] (List.getElem_mem hlt))
        simp only [List.getElem?_cons_zero, List.getElem?_cons_succ, Nat.add_zero] at e0 e1 e2 e3 e4 e5
        generalize l[k] = p at *
        have HKL : Hid (((l.take k).map qND).length ≤ 34) := by show _ ≤ _; simp; omega
        clear hT hc
        go_wp2_with fail
        refine (of17_any HTT.out HSS.out.1.1 HSS.out.1.2 HSS.out.2.1 HSS.out.2.2).mono ?_
        rintro e w1 ⟨_, rfl, b1, o1⟩
        clear e0 e1 e2 e3 e4 e5
        obtain ⟨s1, a1, l1, c1, a1', l1', c1', t1, d1, m1, n1, d1', m1', n1', rfl, O1⟩ := o1.op
        have hO1 := Lib.hid (hO.out.ext OwnD.ext b1)
        have b01 := hx.trans b1
        clear o1
        go_wp2_with (at_builtin; refine append_rowL (y := qND p) et17D (kdD (e := 163) (by decide)) (by rfl) _ _ (by rfl) w.heap.size (by rfl) _ (by rfl) hO1.out rfl (O1.out.mono (Nat.zero_le _)) (Below.size b01) (by have := HKL.out; omega) (by unfold maxLen; have := HKL.out; omega) ?_; intro v9 w9 o9 b9 g9)
        go_roundw
        case rel =>
          refine ⟨k + 1, by go_num, by omega, by omega, Below.trans b01 b9, ?_⟩
          rw [HSN.out]
          exact o9
        case measure => simp [intOf] <;> omega
      · obtain rfl : k = 34 := by omega
        go_wp2_with fail
        exact hR.out _ _ (Gives.mk hx hO.out)
    · obtain rfl : k = l.length := by omega
      have HX : Hid ((l.take l.length).map qND = (l.take 34).map qND) := by show _ = _; rw [List.take_length, List.take_of_length_le hk2]
      go_wp2_with fail
      exact hR.out _ _ (Gives.mk hx (by rw [← HX.out]; exact hO.out))
end Go.Proofs.Ytnbbhpihlcglgaa
