/- attestlaw04.awake; attestref04.Parse at what is no number -/
import Derived.Test.YtgajpmcjjefghaaDoorPRef4
namespace Go.Proofs.YtgajpmcjjefghaaDoor
open Go.RowKit Go.Att

theorem text_lit : strOf (dtext (nv [0, 1])) = ⟨#[52, 50, 57, 52, 57, 54, 55, 50, 57, 54]⟩ := by
  have h1 : nv [0, 1] = 4294967296 := by simp [nv, val, W32]
  rw [h1, ← trim_be (k := 10) (n := 4294967296) (by decide) (by decide)]
  unfold strOf
  rfl
theorem bsOf_lit : bsOf ⟨#[48, 48, 49, 50]⟩ = [48, 48, 49, 50] := by unfold bsOf; rfl
theorem num_lit : limbs (numOf (bsOf ⟨#[48, 48, 49, 50]⟩)) = [12] := by
  rw [bsOf_lit]
  exact Top.canon (xs := [12]) (Fit.one (by decide)) (by show _ ≤ _; decide) |>.symm

theorem awake04 {w : World} : Calls Tryd.prog 13 #[] w (Gives w fun v' _ => v' = .bool true) := by
  refine via fun R hR => ?_
  have HP : Hid (∀ w, Calls Tryd.prog 12 #[.string ⟨#[48, 48, 49, 50]⟩] w (Gives w fun v' w' => ∃ v, v' = .tuple #[v, .int .i64 0] ∧ OwnL 71 w.heap.size w' v [12])) := fun w => by
    have := @parse_ok w ⟨#[48, 48, 49, 50]⟩ (fun k hk => by
      rw [bsOf_lit]
      have hk4 : k < 4 := hk
      match k, hk4 with
      | 0, _ => simp [nth_lt]
      | 1, _ => simp [nth_lt]
      | 2, _ => simp [nth_lt]
      | 3, _ => simp [nth_lt]) (by decide) (by decide)
    rw [num_lit] at this
    exact this
  have HT : Hid (∀ w v, RdL w v [0, 1] → Calls Tryd.prog 20 #[v] w (Gives w fun v' _ => v' = .string ⟨#[52, 50, 57, 52, 57, 54, 55, 50, 57, 54]⟩)) := fun w v h => by
    have := text_any h (by decide)
    rw [text_lit] at this
    exact this
  go_enter Tryd.func13, Tryd.ntmps13
  go_wp2_with fail
  refine (HP.out w).mono ?_
  rintro e w1 ⟨_, rfl, b1, v1, rfl, o1⟩
  have O1 := Lib.hid o1
  clear o1
  go_wp2_with fail
  refine (Same_yes (O1.out.rd.ext (Ext.alloc _ _)) (xb := [12]) ⟨RdV.lit _ _ _ 1 1 rfl (by decide), Fit.one (by decide)⟩ rfl).mono ?_
  rintro e w2 ⟨_, rfl, b2, rfl⟩
  go_wp2_with fail
  refine (HT.out _ _ ⟨RdV.lit _ _ _ 1 2 rfl (by decide), fun x hx => by simp at hx; rcases hx with rfl | rfl <;> decide⟩).mono ?_
  rintro e w3 ⟨_, rfl, b3, rfl⟩
  go_wp2_with fail
  exact hR.out _ _ (Gives.mk (Ext.trans b1 (Ext.trans (Ext.alloc _ _) (Ext.trans b2 (Ext.trans (Ext.alloc _ _) b3)))) rfl)
end Go.Proofs.YtgajpmcjjefghaaDoor
