/- attestlaw05.few -/
import Derived.Test.YtnbbhpihlcglgaaRefAll
namespace Go.Proofs.Ytnbbhpihlcglgaa
open Go.RowKit Go.Att

theorem few5_any {w : World} {va : Value} {xs : List Nat} (ha : RdL w va xs) (hl : xs.length ≤ 1099511627776) :
    Calls Try.prog 124 #[va] w (Gives w fun v' w' => OwnL 163 w.heap.size w' v' (xs.take 8)) := by
  refine via fun R hR => ?_
  have HA := Lib.hid ha
  obtain ⟨a, ca, rfl, hla, hma, _, _⟩ := ha.1.shape
  clear ha
  unfold maxLen at hma
  by_cases h : 8 < xs.length
  · have HT : Hid (RdL w (.slice a 8 ca) (xs.take 8)) := ⟨RdI.take HA.out.1 rfl (by omega), HA.out.2.take 8⟩
    go_enter Try.func124, Try.ntmps124
    go_wp2_with fail
    refine (Copy_any HT.out (by rw [List.length_take]; omega)).mono ?_
    rintro e w1 ⟨v1, rfl, b1, o1⟩
    have O1 := Lib.hid o1
    clear o1
    go_wp2
    exact hR.out _ _ (Gives.mk b1 O1.out)
  · have E : Hid (xs.take 8 = xs) := List.take_of_length_le (by omega)
    go_enter Try.func124, Try.ntmps124
    go_wp2_with fail
    refine (Copy_any HA.out (by omega)).mono ?_
    rintro e w1 ⟨v1, rfl, b1, o1⟩
    have O1 := Lib.hid o1
    clear o1
    go_wp2
    exact hR.out _ _ (Gives.mk b1 (by rw [E.out]; exact O1.out))
end Go.Proofs.Ytnbbhpihlcglgaa
