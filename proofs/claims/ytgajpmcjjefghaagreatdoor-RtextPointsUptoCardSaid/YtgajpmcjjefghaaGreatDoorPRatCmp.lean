/- rat.Cmp -/
import Derived.Test.YtgajpmcjjefghaaGreatDoorPRatSub
import Derived.Test.YtgajpmcjjefghaaGreatDoorPRatSign
namespace Go.Proofs.YtgajpmcjjefghaaGreatDoor
open Go.RowKit Go.Att

theorem rcmp_any {w : World} {va vb : Value} {p q : Rat} (hp : RdQ w va p) (hq : RdQ w vb q) (sp : Sz 10000000 p) (sq : Sz 10000000 q) :
    Calls Tryz.prog 12 #[va, vb] w (Gives w fun v' _ => v' = .int .i64 (p - q).num.sign) := by
  refine via fun R hR => ?_
  have HP := Lib.hid hp
  have HQ := Lib.hid hq
  obtain ⟨n, d, rfl, hn, hd⟩ := hp
  obtain ⟨m, c, rfl, hm, hc⟩ := hq
  have SP := Lib.hid sp
  have SQ := Lib.hid sq
  clear hn hd hm hc sp sq
  obtain ⟨w1, hw1, b1, _, _, _⟩ := box2 w (.bool (decide (p.num < 0))) n d (.bool (decide (q.num < 0))) m c 26 26
  have HW := Lib.hid hw1
  clear hw1
  go_enter Tryz.func12, Tryz.ntmps12
  go_wp2_with fail
  rw [← HW.out]
  clear HW
  go_wp2_with fail
  refine (rsub_any (HP.out.ext b1) (HQ.out.ext b1) SP.out SQ.out).mono ?_
  rintro e w2 ⟨v2, rfl, b2, o2⟩
  have O2 := Lib.hid o2
  clear o2
  go_wp2_with fail
  refine (rsign_any O2.out.rd).mono ?_
  rintro e w3 ⟨_, rfl, b3, rfl⟩
  go_wp2_with fail
  exact hR.out _ _ (Gives.mk (Ext.trans b1 (Ext.trans b2 b3)) rfl)
end Go.Proofs.YtgajpmcjjefghaaGreatDoor
