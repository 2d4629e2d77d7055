/- attestref05.sum -/
import Derived.Test.YtpeeacdnjbcmiaaRatPlain
import Derived.Test.YtpeeacdnjbcmiaaRefAll
namespace Go.Proofs.Ytpeeacdnjbcmiaa
open Go.RowKit Go.Att

theorem r5sum_any {w : World} {s t : Bool} {va vb : Value} {n m : Nat} (ha : RdB w va (bitsOf n)) (hb : RdB w vb (bitsOf m)) (hna : (bitsOf n).length ≤ 1000000000) (hnb : (bitsOf m).length ≤ 1000000000) :
    Calls Try.prog 89 #[.bool s, va, .bool t, vb] w (Gives w fun v' w' => ∃ o, v' = .tuple #[.bool (sumS s n t m), o] ∧ OwnB 4 w.heap.size w' o (bitsOf (sumN s n t m))) := by
  refine via fun R hR => ?_
  have HA := Lib.hid ha
  have HB := Lib.hid hb
  clear ha hb
  unfold sumS sumN at hR
  by_cases hst : s = t
  · subst hst
    rw [if_pos rfl, if_pos rfl] at hR
    go_enter Try.func89, Try.ntmps89
    go_wp2_with fail
    refine (rAdd_any HA.out HB.out (by omega) (by omega)).mono ?_
    rintro e w1 ⟨v1, rfl, b1, o1⟩
    have O1 := Lib.hid o1
    clear o1
    rw [bval_bitsOf, bval_bitsOf] at O1
    go_wp2_with fail
    exact hR.out _ _ (Gives.mk b1 ⟨_, rfl, O1.out⟩)
  · rw [if_neg hst, if_neg hst] at hR
    have hs : (s == t) = false := by cases s <;> cases t <;> simp at hst ⊢
    clear hst
    go_enter Try.func89, Try.ntmps89
    go_wp2_with fail
    refine (rCmp_any _ _ HA.out HB.out).mono ?_
    rintro e w1 ⟨_, rfl, b1, rfl⟩
    rcases cmpN_cases n m with ⟨h, e⟩ | ⟨h, e⟩ | ⟨h, e⟩
    · rw [if_neg (by omega), if_neg (by omega)] at hR
      rw [e]
      clear e
      go_wp2_with fail
      refine (rSub_any (HB.out.ext b1) (HA.out.ext b1) (by rw [bval_bitsOf, bval_bitsOf]; omega) (by omega)).mono ?_
      rintro e w2 ⟨v2, rfl, b2, o2⟩
      have O2 := Lib.hid o2
      clear o2
      rw [bval_bitsOf, bval_bitsOf] at O2
      go_wp2_with fail
      exact hR.out _ _ (Gives.mk (Ext.trans b1 b2) ⟨_, rfl, O2.out.mono b1.size⟩)
    · rw [if_pos (by omega), if_pos (by omega)] at hR
      rw [e]
      clear e
      go_wp2_with fail
      refine (rSub_any (HA.out.ext b1) (HB.out.ext b1) (by rw [bval_bitsOf, bval_bitsOf]; omega) (by omega)).mono ?_
      rintro e w2 ⟨v2, rfl, b2, o2⟩
      have O2 := Lib.hid o2
      clear o2
      rw [bval_bitsOf, bval_bitsOf] at O2
      go_wp2_with fail
      exact hR.out _ _ (Gives.mk (Ext.trans b1 b2) ⟨_, rfl, O2.out.mono b1.size⟩)
    · rw [if_pos (by omega), if_pos (by omega)] at hR
      rw [e]
      clear e
      go_wp2_with fail
      refine (rSub_any (HA.out.ext b1) (HB.out.ext b1) (by rw [bval_bitsOf, bval_bitsOf]; omega) (by omega)).mono ?_
      rintro e w2 ⟨v2, rfl, b2, o2⟩
      have O2 := Lib.hid o2
      clear o2
      rw [bval_bitsOf, bval_bitsOf] at O2
      go_wp2_with fail
      exact hR.out _ _ (Gives.mk (Ext.trans b1 b2) ⟨_, rfl, O2.out.mono b1.size⟩)
end Go.Proofs.Ytpeeacdnjbcmiaa
