/- atom.Check, says, Holds; attestlaw09.Of; attestlaw20.Atoms, Rats -/
import Derived.Test.YtnbbhpihlcglgaaAtom
import Derived.Test.YtnbbhpihlcglgaaPLinEval
import Derived.Test.YtnbbhpihlcglgaaPLinReps
import Derived.Test.YtnbbhpihlcglgaaPNums
namespace Go.Proofs.Ytnbbhpihlcglgaa
open Go.RowKit Go.Att

abbrev OwnA (w : World) (v : Value) (p : AT) : Prop := OwnAt 163 84 w v p
def chk (op : Int) : Int := if 1 ≤ op ∧ op ≤ 3 then 0 else 4
set_option linter.unusedSimpArgs false in
set_option maxHeartbeats 4000000 in
set_option maxRecDepth 100000 in
theorem check9_any {w : World} {v : Value} {p : AT} (hv : OwnA w v p) :
    Calls Try.prog 107 #[v] w (Gives w fun v' _ => v' = .int .i64 (chk p.2)) := by
  refine via fun R hR => ?_
  obtain ⟨a, k, s, b, m, d, b', m', d', rfl, -⟩ := hv.op
  clear hv
  obtain ⟨w1, hw1, b1, c1, -, -⟩ := bx1 w [.slice a p.1.1.length k, .bool s, .slice b m d, .slice b' m' d', .int .i64 p.2] 111
  have HW := Lib.hid hw1
  have C1 := Lib.hid c1
  clear hw1 c1
  go_enter Try.func107, Try.ntmps107
  go_upto_region 1 with (fail)
  rw [← HW.out]
  clear HW
  obtain ⟨k0, k1, k2, k3, k4⟩ := C1.out.c5
  by_cases h1 : p.2 < 1
  · have hd1 : decide (p.2 < 1) = true := decide_eq_true h1
    have hc : chk p.2 = 4 := if_neg (fun h => by omega)
    go_wp2_with fail
    exact hR.out _ _ (Gives.mk b1 (by first | (rw [hc]; done) | (rw [hc]; rfl)))
  · have hd1 : decide (p.2 < 1) = false := decide_eq_false h1
    by_cases h3 : 3 < p.2
    · have hd3 : decide (3 < p.2) = true := decide_eq_true h3
      have hc : chk p.2 = 4 := if_neg (fun h => by omega)
      go_wp2_with fail
      exact hR.out _ _ (Gives.mk b1 (by first | (rw [hc]; done) | (rw [hc]; rfl)))
    · have hd3 : decide (3 < p.2) = false := decide_eq_false h3
      have hc : chk p.2 = 0 := if_pos ⟨by omega, by omega⟩
      go_wp2_with fail
      exact hR.out _ _ (Gives.mk b1 (by first | (rw [hc]; done) | (rw [hc]; rfl)))
set_option maxRecDepth 100000 in
set_option maxHeartbeats 2000000 in
set_option linter.unusedSimpArgs false in
theorem rats20_any {w : World} {v : Value} {l : List NN} (hv : RdRow 3 RdNp w v l) (hs : ∀ p ∈ l, Nlt 1000000000 p) :
    Calls Try.prog 55 #[v] w (Gives w fun v' w' => OwnRow 3 (OwnQp 163) 32 w.heap.size w' v' ((l.take 10).map qN)) := by
  refine via fun R hR => ?_
  have HS := Lib.hid hs
  obtain ⟨a, c, rfl, hlc, hcm⟩ := hv.shape
  have HV := Lib.hid hv
  unfold maxLen at hcm
  clear hv hs
  go_enter Try.func55, Try.ntmps55
  go_wp2_with fail
  go_loopw [3, 4] (fun o i wr => ∃ k : Nat, i = .int .i64 k ∧ k ≤ l.length ∧ k ≤ 10 ∧ Ext w wr ∧ Hid (OwnRow 3 (OwnQp 163) 32 w.heap.size wr o ((l.take k).map qN))) (fun _ i _ => 10 - (intOf i).toNat)
  case atStart => exact ⟨0, rfl, Nat.zero_le _, Nat.zero_le _, Ext.alloc _ _, by rw [List.take_zero]; exact OwnRow.nilLit _ (Nat.le_refl _)⟩
  case round =>
    obtain ⟨k, rfl, hk, hk2, hx, hO⟩ := hrel
    have hsz := hx.size
    by_cases hlt : k < l.length
    · by_cases h34 : k < 10
      · obtain ⟨b, off, cs, rfl, hcl, hT, hc⟩ := HV.out.at (by decide) k hlt
        obtain ⟨y, z, rfl⟩ := cells_N hT
        have e0 := Ext.cell hx (hc 0 (by decide))
        have e1 := Ext.cell hx (hc 1 (by decide))
        have e2 := Ext.cell hx (hc 2 (by decide))
        have HSN := Lib.hid (take_map_snoc qN hlt)
        have HTT := Lib.hid (RdNp.ext hT hx)
        have HSS := Lib.hid (HS.out l[k] (List.getElem_mem hlt))
        simp only [List.getElem?_cons_zero, List.getElem?_cons_succ, Nat.add_zero] at e0 e1 e2
        generalize l[k] = p at *
        have HKL : Hid (((l.take k).map qN).length ≤ 10) := by show _ ≤ _; simp; omega
        clear hT hc
        go_wp2_with fail
        refine (of8_any HTT.out HSS.out.1 HSS.out.2).mono ?_
        rintro e w1 ⟨_, rfl, b1, o1⟩
        clear e0 e1 e2
        obtain ⟨s1, a1, l1, c1, a1', l1', c1', rfl, O1⟩ := o1.op
        have hO1 := Lib.hid (hO.out.ext OwnQ.ext b1)
        have b01 := hx.trans b1
        clear o1
        go_wp2_with (at_builtin; refine append_rowL (y := qN p) etRats (kdQ (e := 163) (by decide)) (by rfl) _ _ (by rfl) w.heap.size (by rfl) _ (by rfl) hO1.out rfl (O1.out.mono (Nat.zero_le _)) (Below.size b01) (by have := HKL.out; omega) (by unfold maxLen; have := HKL.out; omega) ?_; intro v9 w9 o9 b9 g9)
        go_roundw
        case rel =>
          refine ⟨k + 1, by go_num, by omega, by omega, Below.trans b01 b9, ?_⟩
          rw [HSN.out]
          exact o9
        case measure => simp [intOf] <;> omega
      · obtain rfl : k = 10 := by omega
        go_wp2_with fail
        exact hR.out _ _ (Gives.mk hx hO.out)
    · obtain rfl : k = l.length := by omega
      have HX : Hid ((l.take l.length).map qN = (l.take 10).map qN) := by show _ = _; rw [List.take_length, List.take_of_length_le hk2]
      go_wp2_with fail
      exact hR.out _ _ (Gives.mk hx (by rw [← HX.out]; exact hO.out))
end Go.Proofs.Ytnbbhpihlcglgaa
