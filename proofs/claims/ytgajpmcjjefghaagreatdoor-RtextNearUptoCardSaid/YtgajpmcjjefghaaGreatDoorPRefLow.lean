/- attestref02.Low -/
import Derived.Test.YtgajpmcjjefghaaGreatDoorRefAll
import Derived.Lib.Small
import Derived.Lib.Walk
namespace Go.Proofs.YtgajpmcjjefghaaGreatDoor
open Go.RowKit Go.Att

theorem rLow_any {w : World} {va : Value} {bs : List Bool} (ha : RdB w va bs) :
    Calls Tryz.prog 61 #[va] w (Gives w fun v' _ => v' = .int .u64 ((bval bs % W64 : Nat) : Int)) := by
  refine via fun R hR => ?_
  obtain ⟨a, ca, rfl, hla, hma, _, hca⟩ := ha.shape
  have HC := Lib.hid hca
  clear hca ha
  unfold maxLen at hma
  obtain ⟨e, he⟩ : ∃ e, e = min bs.length 64 := ⟨_, rfl⟩
  have he1 : (min (bs.length : Int) 64 : Int) = e := by omega
  have he2 : e ≤ bs.length := by omega
  have he3 : e ≤ 64 := by omega
  have HE := Lib.hid he
  clear he
  go_enter Tryz.func61, Tryz.ntmps61
  go_wp2
  clear he1
  go_loop [3, 4] (fun w j => ∃ (m ww : Nat), m ≤ e ∧ j = .int .i64 ((m : Int) - 1) ∧ w = .int .u64 ww ∧ ww ≤ 18446744073709551615 ∧ Hid (ww = seg bs m e)) (fun _ j => (intOf j + 1).toNat)
  case atStart => exact ⟨e, 0, Nat.le_refl _, rfl, rfl, by omega, (seg_top bs e).symm⟩
  case round =>
    obtain ⟨m, ww, hm2, rfl, rfl, hww, hseg⟩ := hrel
    by_cases hlt2 : 0 < m
    · obtain ⟨j, rfl⟩ : ∃ j, m = j + 1 := ⟨m - 1, by omega⟩
      obtain ⟨ba, oa, rfl, hc⟩ := HC.out j (by omega)
      have hsd := seg_down bs j e (by omega) he2
      have hf := seg_fit63 he2 he3 hlt2
      rw [← hseg.out] at hsd hf
      cases hb : nthB bs j
      · rw [hb] at hc hsd
        have HSD : Hid (2 * ww = seg bs j e) := by show _ = _; rw [hsd]; rfl
        clear hsd hb
        go_wp2
        go_round
        case rel => exact ⟨j, 2 * ww, by omega, by go_num, by go_num, by omega, HSD.out⟩
        case measure => simp [intOf] <;> omega
      · rw [hb] at hc hsd
        have HSD : Hid (2 * ww + 1 = seg bs j e) := by show _ = _; rw [hsd]; rfl
        clear hsd hb
        go_wp2
        go_round
        case rel => exact ⟨j, 2 * ww + 1, by omega, by go_num, by go_num, by omega, HSD.out⟩
        case measure => simp [intOf] <;> omega
    · obtain rfl : m = 0 := by omega
      have E : Hid (ww = bval bs % W64) := by
        show _ = _
        rw [hseg.out, seg_low HE.out]; rfl
      go_wp2
      exact hR.out _ _ (Gives.mk (Ext.refl _) (by rw [← E.out]))
end Go.Proofs.YtgajpmcjjefghaaGreatDoor
