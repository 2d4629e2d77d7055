/- attestlaw17.rats, attestlaw05.Nums -/
import Derived.Test.YtnbbhpihlcglgaaPList17
namespace Go.Proofs.Ytnbbhpihlcglgaa
open Go.RowKit Go.Att

set_option maxRecDepth 100000 in
set_option maxHeartbeats 2000000 in
set_option linter.unusedSimpArgs false in
theorem rats_any {w : World} {v : Value} {l : List NN} (hv : RdRow 3 RdNp w v l) (hs : ∀ p ∈ l, Nlt 1000000000 p) :
    Calls Try.prog 15 #[v] w (Gives w fun v' w' => OwnRow 3 (OwnQp 163) 32 w.heap.size w' v' ((l.take 34).map qN)) := by
  refine via fun R hR => ?_
  have HS := Lib.hid hs
  obtain ⟨a, c, rfl, hlc, hcm⟩ := hv.shape
  have HV := Lib.hid hv
  unfold maxLen at hcm
  clear hv hs
  go_enter Try.func15, Try.ntmps15
  go_wp2_with fail
  go_loopw [3, 4] (fun o i wr => ∃ k : Nat, i = .int .i64 k ∧ k ≤ l.length ∧ k ≤ 34 ∧ Ext w wr ∧ Hid (OwnRow 3 (OwnQp 163) 32 w.heap.size wr o ((l.take k).map qN))) (fun _ i _ => 34 - (intOf i).toNat)
  case atStart => exact ⟨0, rfl, Nat.zero_le _, Nat.zero_le _, Ext.alloc _ _, by rw [List.take_zero]; exact OwnRow.nilLit _ (Nat.le_refl _)⟩
  case round =>
    obtain ⟨k, rfl, hk, hk2, hx, hO⟩ := hrel
    have hsz := hx.size
    by_cases hlt : k < l.length
    · by_cases h34 : k < 34
      · obtain ⟨b, off, cs, rfl, hcl, hT, hc⟩ := HV.out.at (by decide) k hlt
        obtain ⟨y, z, rfl⟩ := cells_N hT
        have e0 := Ext.cell hx (hc 0 (by decide))
        have e1 := Ext.cell hx (hc 1 (by decide))
        have e2 := Ext.cell hx (hc 2 (by decide))
        have HSN := Lib.hid (take_map_snoc qN hlt)
        have HTT := Lib.hid (RdNp.ext hT hx)
        have HSS := Lib.hid (HS.out l[k] (List.getElem_mem hlt))
        simp only [List.getElem?_cons_zero, List.getElem?_cons_succ, Nat.add_zero] at e0 e1 e2
        generalize l[k] = p at *
        have HKL : Hid (((l.take k).map qN).length ≤ 34) := by show _ ≤ _; simp; omega
        clear hT hc
        go_wp2_with fail
        refine (of8_any HTT.out HSS.out.1 HSS.out.2).mono ?_
        rintro e w1 ⟨_, rfl, b1, o1⟩
        clear e0 e1 e2
        obtain ⟨s1, a1, l1, c1, a1', l1', c1', rfl, O1⟩ := o1.op
        have hO1 := Lib.hid (hO.out.ext OwnQ.ext b1)
        have b01 := hx.trans b1
        clear o1
        go_wp2_with (at_builtin; refine append_rowL (y := qN p) etRats (kdQ (e := 163) (by decide)) (by rfl) _ _ (by rfl) w.heap.size (by rfl) _ (by rfl) hO1.out rfl (O1.out.mono (Nat.zero_le _)) (Below.size b01) (by have := HKL.out; omega) (by unfold maxLen; have := HKL.out; omega) ?_; intro v9 w9 o9 b9 g9)
        go_roundw
        case rel =>
          refine ⟨k + 1, by go_num, by omega, by omega, Below.trans b01 b9, ?_⟩
          rw [HSN.out]
          exact o9
        case measure => simp [intOf] <;> omega
      · obtain rfl : k = 34 := by omega
        go_wp2_with fail
        exact hR.out _ _ (Gives.mk hx hO.out)
    · obtain rfl : k = l.length := by omega
      have HX : Hid ((l.take l.length).map qN = (l.take 34).map qN) := by show _ = _; rw [List.take_length, List.take_of_length_le hk2]
      go_wp2_with fail
      exact hR.out _ _ (Gives.mk hx (by rw [← HX.out]; exact hO.out))

theorem etNums : ElemT Try.prog 50 46 (.agg #[.bool false, .slice none 0 0, .slice none 0 0]) 3 56 := ElemT.mk' Try.underlying50 (by kernel_rfl) rfl (by decide)
set_option maxRecDepth 100000 in
set_option maxHeartbeats 2000000 in
set_option linter.unusedSimpArgs false in
theorem nums_any {w : World} {v : Value} {l : List Rat} (hv : RdRow 3 RdQ w v l) (hs : ∀ p ∈ l, Sz 1000000 p) (hl : l.length ≤ 100000) :
    Calls Try.prog 24 #[v] w (Gives w fun v' w' => OwnRow 3 (OwnPp 4) 46 w.heap.size w' v' l) := by
  refine via fun R hR => ?_
  have HS := Lib.hid hs
  obtain ⟨a, c, rfl, hlc, hcm⟩ := hv.shape
  have HV := Lib.hid hv
  unfold maxLen at hcm
  clear hv hs
  go_enter Try.func24, Try.ntmps24
  go_wp2_with fail
  go_loopw [3, 9] (fun o i wr => ∃ k : Nat, i = .int .i64 k ∧ k ≤ l.length ∧ Ext w wr ∧ Hid (OwnRow 3 (OwnPp 4) 46 w.heap.size wr o (l.take k))) (fun _ i _ => l.length - (intOf i).toNat)
  case atStart => exact ⟨0, rfl, Nat.zero_le _, Ext.alloc _ _, by rw [List.take_zero]; exact OwnRow.nilLit _ (Nat.le_refl _)⟩
  case round =>
    obtain ⟨k, rfl, hk, hx, hO⟩ := hrel
    have hsz := hx.size
    by_cases hlt : k < l.length
    · obtain ⟨b, off, cs, rfl, hcl, hT, hc⟩ := HV.out.at (by decide) k hlt
      obtain ⟨aa, ac, ab, ad, rfl⟩ := cells_Q hT
      have e0 := Ext.cell hx (hc 0 (by decide))
      have e1 := Ext.cell hx (hc 1 (by decide))
      have e2 := Ext.cell hx (hc 2 (by decide))
      have HSN := Lib.hid (take_map_snoc id hlt)
      simp only [List.map_id, id] at HSN
      have HTT := Lib.hid (RdQ.ext hT hx)
      have HSS := Lib.hid (HS.out l[k] (List.getElem_mem hlt))
      simp only [List.getElem?_cons_zero, List.getElem?_cons_succ, Nat.add_zero] at e0 e1 e2
      generalize l[k] = p at *
      have HKL : Hid ((l.take k).length ≤ 100000) := by show _ ≤ _; simp; omega
      obtain ⟨w1, hw1, b1, c1, -, -⟩ := bx1 wr [.bool (decide (p.num < 0)), .slice aa (limbs p.num.natAbs).length ac, .slice ab (dens p.den).length ad] 32
      have HW := Lib.hid hw1
      obtain ⟨k0, k1, k2⟩ := c1.c3
      clear hT hc hcl c1 hw1
      go_upto_region 5 with (fail)
      rw [← HW.out]
      clear HW e0 e1 e2
      go_wp2_with fail
      refine (told_any (HTT.out.ext b1) HSS.out).mono ?_
      rintro e w2 ⟨_, rfl, b2, o2⟩
      clear k0 k1 k2
      obtain ⟨s1, a1, l1, c1, a1', l1', c1', rfl, O2⟩ := o2.op
      have b02 := hx.trans (b1.trans b2)
      have hO1 := Lib.hid (hO.out.ext OwnP.ext (b1.trans b2))
      clear o2
      go_wp2_with (at_builtin; refine append_rowL (y := p) etNums (kdP (e := 4) (by decide)) (by rfl) _ _ (by rfl) w.heap.size (by rfl) _ (by rfl) hO1.out rfl (O2.out.mono (Nat.zero_le _)) (Below.size b02) (by have := HKL.out; omega) (by unfold maxLen; have := HKL.out; omega) ?_; intro v9 w9 o9 b9 g9)
      go_roundw
      case rel =>
        refine ⟨k + 1, by go_num, by omega, Below.trans b02 b9, ?_⟩
        rw [HSN.out]
        exact o9
      case measure => simp [intOf] <;> omega
    · obtain rfl : k = l.length := by omega
      have HX : Hid (l.take l.length = l) := List.take_length
      go_wp2_with fail
      exact hR.out _ _ (Gives.mk hx (by rw [← HX.out]; exact hO.out))
end Go.Proofs.Ytnbbhpihlcglgaa
