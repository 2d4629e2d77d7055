/- limb.Bits -/
import Derived.Test.YtndjddeiilggpaaDoorPLimbCut
import Derived.Test.YtndjddeiilggpaaDoorShelf
namespace Go.Proofs.YtndjddeiilggpaaDoor
open Go.RowKit Go.Att

theorem lz_any {x : Nat} (h : x ≤ 4294967295) (w : World) :
    Calls Tryd.prog 18 #[.int .u32 x] w fun e w' => e = .returned (.int .i64 (32 - (blen x : Int))) ∧ w = w' := by
  refine (Tryd.bits_LeadingZeros32 x w (by omega) (by omega)).mono ?_
  rintro e w' ⟨rfl, rfl⟩
  rw [Int.toNat_natCast, bitLen_32 h]
  exact ⟨rfl, rfl⟩

theorem bits_any {w : World} {v : Value} {xs : List Nat} (hv : RdL w v xs) (hn : xs.length ≤ 1099511627776) :
    Calls Tryd.prog 12 #[v] w (Gives w fun v' _ => v' = .int .i64 (blen (nv xs))) := by
  refine via fun R hR => ?_
  have HV := Lib.hid hv
  have hl : (limbs (nv xs)).length ≤ xs.length := (digs_len W32 W32_ge _ _).2 (val_lt (by decide) hv.2)
  clear hv
  go_enter Tryd.func12, Tryd.ntmps12
  go_wp2_with fail
  refine (cut_any HV.out).mono ?_
  rintro e w' ⟨v', rfl, rfl, hr, -⟩
  generalize hx : nv xs = x at *
  obtain ⟨a, ca, rfl, hla, hma, _, hca⟩ := hr.1.shape
  have HC := Lib.hid hca
  clear hca hr hx
  unfold maxLen at hma
  have fin : ∀ c : Int, (blen x : Int) = c → R (.returned (.int .i64 c)) w := fun c hc => hR.out _ _ (Gives.mk (Ext.refl _) (by rw [hc]))
  have FIN := Lib.hid fin
  clear fin
  by_cases h0 : x = 0
  · have e0 : (limbs x).length ≤ 0 := by rw [h0]; unfold limbs; rw [digs_zero]; exact Nat.le_refl _
    have eb : blen x = 0 := by rw [h0, blen_zero]
    have EB := Lib.hid eb
    have et : (((limbs x).length : Int) == 0) = true := beqT (by omega)
    clear h0 eb
    go_wp2
    all_goals exact FIN.out _ (by rw [EB.out]; rfl)
  · obtain ⟨b1, b2, b3⟩ := blen_limbs x h0
    have FA := (fit_limbs x).nth32 ((limbs x).length - 1)
    have hbl := blen_32 FA
    obtain ⟨ba, oa, rfl, hc⟩ := HC.out ((limbs x).length - 1) (by omega)
    generalize hL : (limbs x).length = L at *
    generalize hN : nth (limbs x) (L - 1) = N at *
    have et : ((L : Int) == 0) = false := beqF (by omega)
    have B1 := Lib.hid b1
    clear b1 hL hN h0 b2
    go_wp2_with (go_at_call 18; refine (lz_any FA _).mono ?_; rintro e w' ⟨rfl, rfl⟩)
    all_goals exact FIN.out _ (by rw [B1.out]; omega)
end Go.Proofs.YtndjddeiilggpaaDoor
