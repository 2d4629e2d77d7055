/- attestlaw17.awake -/
import Derived.Test.YtnbbhpihlcglgaaPRcmpTo
import Derived.Test.YtnbbhpihlcglgaaRatAll
import Derived.Test.YtnbbhpihlcglgaaPSpan2
namespace Go.Proofs.Ytnbbhpihlcglgaa
open Go.RowKit Go.Att

set_option maxHeartbeats 1000000 in
set_option linter.unusedSimpArgs false in
theorem awake17 {w : World} : Calls Try.prog 19 #[] w (Gives w fun v' _ => v' = .bool true) := by
  refine via fun R hR => ?_
  have S2 := Lib.hid (Sz.int (-2) (by omega))
  have S6 := Lib.hid (Sz.int (-6) (by omega))
  have H1 : Hid ((((-6 : Int) : Rat) - ((-6 : Int) : Rat)).num.sign = 0) := by show _ = _; decide +kernel
  have H2 : Hid ((((-2 : Int) : Rat) - ((-2 : Int) : Rat)).num.sign = 0) := by show _ = _; decide +kernel
  have H3 : Hid (∀ w v, RdD w v ((-6 : Int) : Rat) ((-2 : Int) : Rat) → Calls Try.prog 83 #[v] w (Gives w fun v' _ => v' = .int .i64 (-1))) := fun w v h => by
    have := sphase_any h
    exact this
  have HSC : Hid (∀ w va vb, RdQ w va ((-2 : Int) : Rat) → RdD w vb ((1 : Int) : Rat) ((3 : Int) : Rat) → Calls Try.prog 81 #[va, vb] w (Gives w fun v' w' => OwnD 163 w.heap.size w' v' ((-6 : Int) : Rat) ((-2 : Int) : Rat))) := fun w va vb h1 h2 => by
    have e1 : mn (((-2 : Int) : Rat) * ((1 : Int) : Rat)) (((-2 : Int) : Rat) * ((3 : Int) : Rat)) = ((-6 : Int) : Rat) := by decide +kernel
    have e2 : mx (((-2 : Int) : Rat) * ((1 : Int) : Rat)) (((-2 : Int) : Rat) * ((3 : Int) : Rat)) = ((-2 : Int) : Rat) := by decide +kernel
    have h := sscale_any h1 h2 ((Sz.int (-2) (by omega)).le (by decide)) ((Sz.int 1 (by omega)).le (by decide)) ((Sz.int 3 (by omega)).le (by decide))
    rw [e1, e2] at h
    exact h
  have HI2 : Hid (∀ w, Calls Try.prog 44 #[.int .i64 (-2)] w (Gives w fun v' w' => OwnQ 163 w.heap.size w' v' ((-2 : Int) : Rat))) := fun w => rint_any (by omega)
  have HI1 : Hid (∀ w, Calls Try.prog 44 #[.int .i64 1] w (Gives w fun v' w' => OwnQ 163 w.heap.size w' v' ((1 : Int) : Rat))) := fun w => rint_any (by omega)
  have HI3 : Hid (∀ w, Calls Try.prog 44 #[.int .i64 3] w (Gives w fun v' w' => OwnQ 163 w.heap.size w' v' ((3 : Int) : Rat))) := fun w => rint_any (by omega)
  have HI6 : Hid (∀ w, Calls Try.prog 44 #[.int .i64 (-6)] w (Gives w fun v' w' => OwnQ 163 w.heap.size w' v' ((-6 : Int) : Rat))) := fun w => rint_any (by omega)
  generalize ((1 : Int) : Rat) = q1 at *
  generalize ((3 : Int) : Rat) = q3 at *
  generalize ((-2 : Int) : Rat) = q2 at *
  generalize ((-6 : Int) : Rat) = q6 at *
  go_enter Try.func19, Try.ntmps19
  go_wp2_with fail
  refine (HI2.out w).mono ?_
  rintro e w1 ⟨_, rfl, b1, n1, d1, rfl, on1, od1⟩
  obtain ⟨an1, cn1, rfl, -, -, -, -⟩ := on1.rd.1.shape
  obtain ⟨ad1, cd1, rfl, -, -, -, -⟩ := od1.rd.1.shape
  go_wp2_with fail
  refine (HI1.out w1).mono ?_
  rintro e w2 ⟨_, rfl, b2, n2, d2, rfl, on2, od2⟩
  obtain ⟨an2, cn2, rfl, -, -, -, -⟩ := on2.rd.1.shape
  obtain ⟨ad2, cd2, rfl, -, -, -, -⟩ := od2.rd.1.shape
  go_wp2_with fail
  refine (HI3.out w2).mono ?_
  rintro e w3 ⟨_, rfl, b3, n3, d3, rfl, on3, od3⟩
  obtain ⟨an3, cn3, rfl, -, -, -, -⟩ := on3.rd.1.shape
  obtain ⟨ad3, cd3, rfl, -, -, -, -⟩ := od3.rd.1.shape
  go_wp2_with fail
  refine (HSC.out w3 _ _ ⟨_, _, rfl, on1.rd.ext (Ext.trans b2 b3), od1.rd.ext (Ext.trans b2 b3)⟩ ⟨_, _, _, _, _, _, rfl, ⟨_, _, rfl, on2.rd.ext b3, od2.rd.ext b3⟩, ⟨_, _, rfl, on3.rd, od3.rd⟩⟩).mono ?_
  rintro e w4 ⟨_, rfl, b4, n4, d4, m4, c4, rfl, on4, od4, om4, oc4⟩
  obtain ⟨an4, cn4, rfl, -, -, -, -⟩ := on4.rd.1.shape
  obtain ⟨ad4, cd4, rfl, -, -, -, -⟩ := od4.rd.1.shape
  obtain ⟨am4, cm4, rfl, -, -, -, -⟩ := om4.rd.1.shape
  obtain ⟨ac4, cc4, rfl, -, -, -, -⟩ := oc4.rd.1.shape
  obtain ⟨w5, hw, b5, c5, -, -⟩ := bx1 w4 [.bool (decide (q6.num < 0)), .slice an4 (limbs q6.num.natAbs).length cn4, .slice ad4 (dens q6.den).length cd4, .bool (decide (q2.num < 0)), .slice am4 (limbs q2.num.natAbs).length cm4, .slice ac4 (dens q2.den).length cc4] 34
  have HW := Lib.hid hw
  have C5 := Lib.hid c5
  have RA : Hid (RdQ w5 (.agg #[.bool (decide (q6.num < 0)), .slice an4 (limbs q6.num.natAbs).length cn4, .slice ad4 (dens q6.den).length cd4]) q6) := ⟨_, _, rfl, on4.rd.ext b5, od4.rd.ext b5⟩
  have RB : Hid (RdQ w5 (.agg #[.bool (decide (q2.num < 0)), .slice am4 (limbs q2.num.natAbs).length cm4, .slice ac4 (dens q2.den).length cc4]) q2) := ⟨_, _, rfl, om4.rd.ext b5, oc4.rd.ext b5⟩
  clear on1 od1 on2 od2 on3 od3 on4 od4 om4 oc4 hw c5
  go_upto_region 2 with (fail)
  rw [← HW.out]
  clear HW
  generalize Value.bool (decide (q6.num < 0)) = y0 at *
  generalize Value.slice an4 (limbs q6.num.natAbs).length cn4 = y1 at *
  generalize Value.slice ad4 (dens q6.den).length cd4 = y2 at *
  generalize Value.bool (decide (q2.num < 0)) = y3 at *
  generalize Value.slice am4 (limbs q2.num.natAbs).length cm4 = y4 at *
  generalize Value.slice ac4 (dens q2.den).length cc4 = y5 at *
  have b6 := drew_ext w5
  have XE := b6
  go_region_held3 (fun w' => w'.cell? ⟨w4.heap.size, 0, none⟩ = some (y0) ∧ w'.cell? ⟨w4.heap.size, 1, none⟩ = some (y1) ∧ w'.cell? ⟨w4.heap.size, 2, none⟩ = some (y2) ∧ w'.cell? ⟨w4.heap.size, 3, none⟩ = some (y3) ∧ w'.cell? ⟨w4.heap.size, 4, none⟩ = some (y4) ∧ w'.cell? ⟨w4.heap.size, 5, none⟩ = some (y5)) (exact (C5.out.ext XE).c6)
    (first
     | (go_at_call 83; refine (H3.out w10 _ ⟨_, _, _, _, _, _, rfl, RA.out.ext (Ext.trans b6 (Ext.trans b7 (Ext.trans b8 (Ext.trans b9 b10)))), RB.out.ext (Ext.trans b6 (Ext.trans b7 (Ext.trans b8 (Ext.trans b9 b10))))⟩).mono ?_; rintro e w11 ⟨_, rfl, b11, rfl⟩; (first | have XE := Ext.trans XE b11 | have XE := Ext.trans (Ext.trans XE (Ext.alloc _ _)) b11))
     | (go_at_call 30; refine (rcmp_to7 (RB.out.ext (Ext.trans b6 (Ext.trans b7 (Ext.trans b8 b9)))) O9.out.rd (S2.out.le (by decide)) (S2.out.le (by decide)) H2.out).mono ?_; rintro e w10 ⟨_, rfl, b10, rfl⟩; (first | have XE := Ext.trans XE b10 | have XE := Ext.trans (Ext.trans XE (Ext.alloc _ _)) b10))
     | (go_at_call 44; refine (HI2.out w8).mono ?_; rintro e w9 ⟨v9, rfl, b9, o9⟩; have O9 := Lib.hid o9; clear o9; (first | have XE := Ext.trans XE b9 | have XE := Ext.trans (Ext.trans XE (Ext.alloc _ _)) b9))
     | (go_at_call 30; refine (rcmp_to7 (RA.out.ext (Ext.trans b6 b7)) O7.out.rd (S6.out.le (by decide)) (S6.out.le (by decide)) H1.out).mono ?_; rintro e w8 ⟨_, rfl, b8, rfl⟩; (first | have XE := Ext.trans XE b8 | have XE := Ext.trans (Ext.trans XE (Ext.alloc _ _)) b8))
     | (go_at_call 44; refine (HI6.out _).mono ?_; rintro e w7 ⟨v7, rfl, b7, o7⟩; have O7 := Lib.hid o7; clear o7; (first | have XE := Ext.trans XE b7 | have XE := Ext.trans (Ext.trans XE (Ext.alloc _ _)) b7)))
  go_wp2_with fail
  exact hR.out _ _ (Gives.mk (Ext.trans b1 (Ext.trans b2 (Ext.trans b3 (Ext.trans b4 (Ext.trans b5 (Ext.trans b6 (Ext.trans b7 (Ext.trans b8 (Ext.trans b9 (Ext.trans b10 b11)))))))))) rfl)
end Go.Proofs.Ytnbbhpihlcglgaa
