/- attestref02.Shl -/
import Derived.Test.YtblbpelaleaonaaPRefCut
namespace Go.Proofs.Ytblbpelaleaonaa
open Go.RowKit Go.Att

theorem rShl_any {w : World} {va : Value} {bs : List Bool} (n : Nat) (hn : n ≤ 100000) (ha : RdB w va bs) (hl : bs.length ≤ 1099511627776) :
    Calls Try.prog 30 #[va, .int .i64 n] w (Gives w fun v' w' => OwnB 4 w.heap.size w' v' (bitsOf (bval bs * 2 ^ n))) := by
  refine via fun R hR => ?_
  have HA := Lib.hid ha
  clear ha
  go_enter Try.func30, Try.ntmps30
  go_wp2_with (at_make; refine make_bools etB rfl _ _ rfl _ _ n rfl rfl (by omega) (by unfold maxLen; omega) ?_)
  intro w1 ho hext
  have HO := Lib.hid ho
  have hsz := hext.size
  clear ho
  go_wp2_with (at_builtin; refine append_rd etB rfl _ _ rfl w.heap.size rfl HO.out rfl (RdV.ext HA.out hext) (bools_one _) (by rw [len_nays]; omega) (by rw [len_nays]; unfold maxLen; omega) hsz ?_)
  intro v2 w2 ho2 hb2 _
  have ho3 : Hid (OwnB 4 w.heap.size w2 v2 (nays n ++ bs)) := by
    show OwnB _ _ _ _ _
    unfold OwnB
    rw [bools_app, List.length_append]
    exact ho2
  have hb3 := Below.trans hext hb2
  clear ho2
  go_wp2_with (go_at_call 31; refine (CutOwn ho3.out).mono ?_; rintro e w3 ⟨v3, rfl, rfl, ho4⟩)
  have HO4 := Lib.hid ho4
  clear ho4
  go_wp2
  have ho5 := HO4.out
  rw [bval_shl] at ho5
  exact hR.out _ _ (Gives.mk hb3 ho5)
end Go.Proofs.Ytblbpelaleaonaa
