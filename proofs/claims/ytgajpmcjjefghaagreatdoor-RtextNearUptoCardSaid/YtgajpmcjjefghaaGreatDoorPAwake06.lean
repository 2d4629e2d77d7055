/- attestlaw06.awake -/
import Derived.Test.YtgajpmcjjefghaaGreatDoorPRtParse
namespace Go.Proofs.YtgajpmcjjefghaaGreatDoor
open Go.RowKit Go.Att

theorem read0 : readT [45, 48, 46, 53, 48] = some (-1 / 2) := by
  unfold readT frac
  rw [if_neg (by decide), if_pos (by decide), if_neg (by decide), if_pos (by decide), if_neg (by decide)]
  unfold mkQ
  decide +kernel
theorem print0 : strOf (printT (-1 / 2)) = ⟨#[45, 49, 47, 50]⟩ := by
  have h1 : (-1 / 2 : Rat).num = -1 := by decide +kernel
  have h2 : (-1 / 2 : Rat).den = 2 := by decide +kernel
  unfold printT signT
  rw [h1, h2, if_pos (by decide), if_neg (by decide), show (-1 : Int).natAbs = 1 from rfl, dtext_small (by decide), dtext_small (by decide)]
  unfold strOf
  rfl
theorem smt0 : strOf (smtT (-1 / 2)) = ⟨#[40, 45, 32, 40, 47, 32, 49, 32, 50, 41, 41]⟩ := by
  have h1 : (-1 / 2 : Rat).num = -1 := by decide +kernel
  have h2 : (-1 / 2 : Rat).den = 2 := by decide +kernel
  unfold smtT
  rw [h1, h2, if_pos (by decide), if_neg (by decide), show (-1 : Int).natAbs = 1 from rfl, dtext_small (by decide), dtext_small (by decide)]
  unfold strOf
  rfl
theorem sz0 : Sz 100000 (-1 / 2) := by
  have h1 : (-1 / 2 : Rat).num = -1 := by decide +kernel
  have h2 : (-1 / 2 : Rat).den = 2 := by decide +kernel
  exact ⟨by rw [h1]; exact Nat.le_trans ((digs_len W32 (by decide) _ 1).2 (by decide)) (by decide), by rw [h2]; exact Nat.le_trans ((digs_len W32 (by decide) _ 1).2 (by decide)) (by decide)⟩
theorem awake06 {w : World} (hm : ∃ m, w.cell? ⟨0, 0, none⟩ = some (.int .i64 m)) : Calls Tryz.prog 8 #[] w (Gives w fun v' _ => v' = .bool true) := by
  refine via fun R hR => ?_
  have l0 : strOf [45, 48, 46, 53, 48] = ⟨#[45, 48, 46, 53, 48]⟩ := by unfold strOf; rfl
  have HPA : Hid (Calls Tryz.prog 11 #[.string ⟨#[45, 48, 46, 53, 48]⟩] w (Gives w fun v' w' => RtR w' v' (some (-1 / 2)))) := by
    have h := rtparse_any (w := w) (L := [45, 48, 46, 53, 48]) (by unfold Fit; decide) (by decide) hm
    rw [read0, l0] at h
    exact h
  clear l0 hm
  go_enter Tryz.func8, Tryz.ntmps8
  go_wp2_with fail
  refine HPA.out.mono ?_
  rintro e w1 ⟨_, rfl, b1, o, rfl, o1⟩
  obtain ⟨z0, d3, n3, e3, d4, n4, e4, rfl, O1⟩ := o1.op
  clear o1
  obtain ⟨w2, hw2, b2, c2, -, -⟩ := bx1 w1 [.bool z0, .slice d3 n3 e3, .slice d4 n4 e4] 26
  have HW := Lib.hid hw2
  have C2 := Lib.hid c2
  clear hw2 c2
  go_upto_region 2 with (fail)
  rw [← HW.out]
  clear HW
  obtain ⟨k0, k1, k2⟩ := C2.out.c3
  go_wp2_with fail
  clear k0 k1 k2
  refine (print6_any (O1.out.rd.ext b2) sz0).mono ?_
  rintro e w3 ⟨_, rfl, b3, rfl⟩
  rw [print0]
  obtain ⟨k0, k1, k2⟩ := (C2.out.ext b3).c3
  go_wp2_with fail
  clear k0 k1 k2
  refine (smt6_any (O1.out.rd.ext (Ext.trans b2 b3)) sz0).mono ?_
  rintro e w4 ⟨_, rfl, b4, rfl⟩
  rw [smt0]
  go_wp2_with fail
  exact hR.out _ _ (Gives.mk (Ext.trans b1 (Ext.trans b2 (Ext.trans b3 b4))) rfl)
end Go.Proofs.YtgajpmcjjefghaaGreatDoor
