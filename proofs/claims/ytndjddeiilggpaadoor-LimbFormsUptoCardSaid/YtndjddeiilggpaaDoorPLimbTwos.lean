/- limb.Twos -/
import Derived.Test.YtndjddeiilggpaaDoorNumB
import Derived.Test.YtndjddeiilggpaaDoorPLimbCut
import Derived.Test.YtndjddeiilggpaaDoorTz
namespace Go.Proofs.YtndjddeiilggpaaDoor
open Go.RowKit Go.Att

theorem tz_any {x : Nat} (h : x ≤ 4294967295) (w : World) (hT : TabAt 0 Lib.deBruijn32tab w) :
    Calls Tryd.prog 19 #[.int .u32 x] w fun e w' => e = .returned (.int .i64 (Lib.ctz 32 x)) ∧ w = w' := by
  refine (Tryd.bits_TrailingZeros32 x (by omega) w fun _ => hT).mono ?_
  rintro e w' ⟨rfl, rfl⟩
  exact ⟨rfl, rfl⟩
theorem twos_any {w : World} {va : Value} {xs : List Nat} (ha : RdL w va xs) (hn : xs.length ≤ 1099511627776) (hT : TabAt 0 Lib.deBruijn32tab w) :
    Calls Tryd.prog 14 #[va] w (Gives w fun v' _ => ∃ t : Nat, v' = .int .i64 t ∧ IsTwos (nv xs) t) := by
  refine via fun R hR => ?_
  have HT := Lib.hid hT
  obtain ⟨a, ca, rfl, hla, hma, _, hca⟩ := ha.1.shape
  have HA := Lib.hid ha
  have HCA := Lib.hid hca
  clear ha hca hT
  unfold maxLen at hma
  go_enter Tryd.func14, Tryd.ntmps14
  go_wp2_with fail
  go_loopw [7] (fun i wr => ∃ k : Nat, i = .int .i64 k ∧ k ≤ xs.length ∧ wr = w ∧ Hid (val W32 (xs.take k) = 0)) (fun i _ => xs.length - (intOf i).toNat)
  case atStart => exact ⟨0, rfl, Nat.zero_le _, rfl, by show _ = _; rw [List.take_zero]; rfl⟩
  case round =>
    obtain ⟨k, rfl, hk, rfl, hz⟩ := hrel
    by_cases hlt : k < xs.length
    · obtain ⟨ba, oa, rfl, hc⟩ := HCA.out k hlt
      have FA := HA.out.2.nth32 k
      by_cases h0 : nth xs k = 0
      · have HN : Hid (val W32 (xs.take (k + 1)) = 0) := by show _ = _; rw [val_take_succ, hz.out, h0, Nat.mul_zero]
        rw [h0] at hc
        clear h0
        go_wp2
        go_roundw
        case rel => exact ⟨k + 1, by go_num, by omega, by simp, HN⟩
        case measure => simp [intOf] <;> omega
      · have HI := Lib.hid (twos_limb HA.out.2 hlt hz.out h0)
        have hcz : Lib.ctz 32 (nth xs k) ≤ 32 := by
          have := (Lib.lowest_bit 32 (nth xs k) h0 (by omega)).2
          omega
        have hne : ((nth xs k : Int) != 0) = true := bneT (by omega)
        go_wp2_with (go_at_call 19; refine (tz_any FA _ HT.out).mono ?_; rintro e w' ⟨rfl, rfl⟩)
        exact hR.out _ _ (Gives.mk (Ext.refl _) ⟨32 * k + Lib.ctz 32 (nth xs k), by congr 1, HI.out⟩)
    · have HZ : Hid (nv xs = 0) := by
        show _ = _
        unfold nv
        rw [← val_take_ge W32 xs k (by omega), hz.out]
      go_wp2
      exact hR.out _ _ (Gives.mk (Ext.refl _) ⟨0, rfl, twos_none HZ.out⟩)
end Go.Proofs.YtndjddeiilggpaaDoor
