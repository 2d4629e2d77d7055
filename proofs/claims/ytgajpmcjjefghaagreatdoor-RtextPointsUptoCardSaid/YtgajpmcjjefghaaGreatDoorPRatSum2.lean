/- rat.sum -/
import Derived.Test.YtgajpmcjjefghaaGreatDoorRatPlain
import Derived.Test.YtgajpmcjjefghaaGreatDoorLimbAll
namespace Go.Proofs.YtgajpmcjjefghaaGreatDoor
open Go.RowKit Go.Att

theorem rsum2_any {w : World} {s t : Bool} {va vb : Value} {xa xb : List Nat} (ha : RdL w va xa) (hb : RdL w vb xb) (hna : xa.length ≤ 1000000000) (hnb : xb.length ≤ 1000000000) :
    Calls Tryz.prog 69 #[.bool s, va, .bool t, vb] w (Gives w fun v' w' => ∃ o, v' = .tuple #[.bool (sumS s (nv xa) t (nv xb)), o] ∧ OwnL 57 w.heap.size w' o (limbs (sumN s (nv xa) t (nv xb)))) := by
  refine via fun R hR => ?_
  have HA := Lib.hid ha
  have HB := Lib.hid hb
  clear ha hb
  unfold sumS sumN at hR
  by_cases hst : s = t
  · subst hst
    rw [if_pos rfl, if_pos rfl] at hR
    go_enter Tryz.func69, Tryz.ntmps69
    go_wp2_with fail
    refine (add_any HA.out HB.out (by omega) (by omega)).mono ?_
    rintro e w1 ⟨v1, rfl, b1, o1⟩
    have O1 := Lib.hid o1
    clear o1
    go_wp2_with fail
    exact hR.out _ _ (Gives.mk b1 ⟨_, rfl, O1.out⟩)
  · rw [if_neg hst, if_neg hst] at hR
    have hs : (s == t) = false := by cases s <;> cases t <;> simp at hst ⊢
    clear hst
    by_cases hab : nv xb ≤ nv xa
    · rw [if_pos hab, if_pos hab] at hR
      go_enter Tryz.func69, Tryz.ntmps69
      go_wp2_with fail
      refine (sub_yes HA.out HB.out hab (by omega)).mono ?_
      rintro e w1 ⟨_, rfl, b1, v1, rfl, o1⟩
      have O1 := Lib.hid o1
      clear o1
      go_wp2_with fail
      exact hR.out _ _ (Gives.mk b1 ⟨_, rfl, O1.out⟩)
    · rw [if_neg hab, if_neg hab] at hR
      have hba : nv xa < nv xb := by omega
      clear hab
      go_enter Tryz.func69, Tryz.ntmps69
      go_wp2_with fail
      refine (sub_no HA.out HB.out hba).mono ?_
      rintro e w1 ⟨_, rfl, b1, rfl⟩
      go_wp2_with fail
      refine (sub_yes (HB.out.ext b1) (HA.out.ext b1) (by omega) (by omega)).mono ?_
      rintro e w2 ⟨_, rfl, b2, v2, rfl, o2⟩
      have O2 := Lib.hid o2
      clear o2
      go_wp2_with fail
      exact hR.out _ _ (Gives.mk (Ext.trans b1 b2) ⟨_, rfl, O2.out.mono b1.size⟩)

theorem rsum2_to {w : World} {s t : Bool} {va vb : Value} {xa xb : List Nat} (n m : Nat) (ha : RdL w va xa) (hb : RdL w vb xb) (hna : xa.length ≤ 1000000000) (hnb : xb.length ≤ 1000000000) (hn : nv xa = n) (hm : nv xb = m) :
    Calls Tryz.prog 69 #[.bool s, va, .bool t, vb] w (Gives w fun v' w' => ∃ o, v' = .tuple #[.bool (sumS s n t m), o] ∧ OwnL 57 w.heap.size w' o (limbs (sumN s n t m))) :=
  hn ▸ hm ▸ rsum2_any ha hb hna hnb
end Go.Proofs.YtgajpmcjjefghaaGreatDoor
