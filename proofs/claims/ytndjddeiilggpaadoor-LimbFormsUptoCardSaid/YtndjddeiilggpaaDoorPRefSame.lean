/- attestref02.Same -/
import Derived.Test.YtndjddeiilggpaaDoorPLimbCut
namespace Go.Proofs.YtndjddeiilggpaaDoor
open Go.RowKit Go.Att

theorem Same_yes {w : World} {va vb : Value} {xa xb : List Nat} (ha : RdL w va xa) (hb : RdL w vb xb) (h : xa = xb) :
    Calls Tryd.prog 6 #[va, vb] w (Gives w fun v' _ => v' = .bool true) := by
  subst h
  refine via fun R hR => ?_
  obtain ⟨a, ca, rfl, hla, hma, _, hca⟩ := ha.1.shape
  obtain ⟨b, cb, rfl, hlb, hmb, _, hcb⟩ := hb.1.shape
  have HCA := Lib.hid hca
  have HCB := Lib.hid hcb
  clear hca hcb ha hb
  unfold maxLen at hma hmb
  go_enter Tryd.func6, Tryd.ntmps6
  go_wp2
  go_loopw [13] (fun i wr => ∃ k : Nat, i = .int .i64 k ∧ k ≤ xa.length ∧ Ext w wr) (fun i _ => xa.length - (intOf i).toNat)
  case atStart => exact ⟨0, rfl, Nat.zero_le _, Ext.refl _⟩
  case round =>
    obtain ⟨k, rfl, hk, hbel⟩ := hrel
    by_cases hlt : k < xa.length
    · obtain ⟨ba, oa, rfl, hca⟩ := HCA.out k hlt
      obtain ⟨bb, ob, rfl, hcb⟩ := HCB.out k hlt
      have hca' := Ext.cell hbel hca
      have hcb' := Ext.cell hbel hcb
      clear hca hcb
      go_wp2
      go_region
      all_goals
        go_wp2
        go_roundw
        case rel => exact ⟨k + 1, by go_num, by omega, hbel.drew⟩
        case measure => simp [intOf] <;> omega
    · go_wp2
      all_goals exact hR.out _ _ (Gives.mk hbel rfl)
end Go.Proofs.YtndjddeiilggpaaDoor
