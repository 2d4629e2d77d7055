/- attestlaw07.awake -/
import Derived.Test.YtpeeacdnjbcmiaaPDelta
import Derived.Test.YtpeeacdnjbcmiaaPRatInt
import Derived.Test.YtpeeacdnjbcmiaaPRatFrac
namespace Go.Proofs.Ytpeeacdnjbcmiaa
open Go.RowKit Go.Att

theorem dcmp_to {w : World} {va vb : Value} {a b c d : Rat} {t : Int} (hp : RdD w va a b) (hq : RdD w vb c d) (sa : Sz 10000000 a) (sb : Sz 10000000 b) (sc : Sz 10000000 c) (sd : Sz 10000000 d) (h : cmpD a b c d = t) :
    Calls Try.prog 88 #[va, vb] w (Gives w fun v' _ => v' = .int .i64 t) := h ▸ dcmp_any hp hq sa sb sc sd
theorem rcmp_to7 {w : World} {va vb : Value} {p q : Rat} {t : Int} (hp : RdQ w va p) (hq : RdQ w vb q) (sp : Sz 10000000 p) (sq : Sz 10000000 q) (h : (p - q).num.sign = t) :
    Calls Try.prog 46 #[va, vb] w (Gives w fun v' _ => v' = .int .i64 t) := h ▸ rcmp_any hp hq sp sq

theorem awake07 {w : World} : Calls Try.prog 17 #[] w (Gives w fun v' _ => v' = .bool true) := by
  refine via fun R hR => ?_
  have H1 : Hid (cmpD ((1 : Int) : Rat) ((-2 : Int) : Rat) ((1 : Int) : Rat) 0 = -1) := by show _ = _; unfold cmpD; decide +kernel
  have H2 : Hid ((((1 : Int) : Rat) + ((-2 : Int) : Rat) * ((3 : Int) : Rat) - ((-5 : Int) : Rat)).num.sign = 0) := by show _ = _; decide +kernel
  have S1 := Lib.hid (Sz.int 1 (by omega))
  have S2 := Lib.hid (Sz.int (-2) (by omega))
  have S3 := Lib.hid (Sz.int 3 (by omega))
  have S5 := Lib.hid (Sz.int (-5) (by omega))
  have HI1 : Hid (∀ w, Calls Try.prog 62 #[.int .i64 1] w (Gives w fun v' w' => OwnQ 148 w.heap.size w' v' ((1 : Int) : Rat))) := fun w => rint_any (by omega)
  have HI2 : Hid (∀ w, Calls Try.prog 62 #[.int .i64 (-2)] w (Gives w fun v' w' => OwnQ 148 w.heap.size w' v' ((-2 : Int) : Rat))) := fun w => rint_any (by omega)
  have HI3 : Hid (∀ w, Calls Try.prog 62 #[.int .i64 3] w (Gives w fun v' w' => OwnQ 148 w.heap.size w' v' ((3 : Int) : Rat))) := fun w => rint_any (by omega)
  have HI5 : Hid (∀ w, Calls Try.prog 62 #[.int .i64 (-5)] w (Gives w fun v' w' => OwnQ 148 w.heap.size w' v' ((-5 : Int) : Rat))) := fun w => rint_any (by omega)
  generalize ((1 : Int) : Rat) = q1 at *
  generalize ((-2 : Int) : Rat) = q2 at *
  generalize ((3 : Int) : Rat) = q3 at *
  generalize ((-5 : Int) : Rat) = q5 at *
  go_enter Try.func17, Try.ntmps17
  go_wp2_with fail
  refine (HI1.out w).mono ?_
  rintro e w1 ⟨_, rfl, b1, n1, d1, rfl, on1, od1⟩
  obtain ⟨an1, cn1, rfl, -, -, -, -⟩ := on1.rd.1.shape
  obtain ⟨ad1, cd1, rfl, -, -, -, -⟩ := od1.rd.1.shape
  go_wp2_with fail
  refine (HI2.out w1).mono ?_
  rintro e w2 ⟨_, rfl, b2, n2, d2, rfl, on2, od2⟩
  obtain ⟨an2, cn2, rfl, -, -, -, -⟩ := on2.rd.1.shape
  obtain ⟨ad2, cd2, rfl, -, -, -, -⟩ := od2.rd.1.shape
  obtain ⟨w3, hw, b3, c3, -, -⟩ := bx1 w2 [.bool (decide (q1.num < 0)), .slice an1 (limbs q1.num.natAbs).length cn1, .slice ad1 (dens q1.den).length cd1, .bool (decide (q2.num < 0)), .slice an2 (limbs q2.num.natAbs).length cn2, .slice ad2 (dens q2.den).length cd2] 30
  have HW := Lib.hid hw
  have C3 := Lib.hid c3
  have RD : Hid (RdD w3 (.agg #[.bool (decide (q1.num < 0)), .slice an1 (limbs q1.num.natAbs).length cn1, .slice ad1 (dens q1.den).length cd1, .bool (decide (q2.num < 0)), .slice an2 (limbs q2.num.natAbs).length cn2, .slice ad2 (dens q2.den).length cd2]) q1 q2) :=
    ⟨_, _, _, _, _, _, rfl, ⟨_, _, rfl, on1.rd.ext (Ext.trans b2 b3), od1.rd.ext (Ext.trans b2 b3)⟩, ⟨_, _, rfl, on2.rd.ext b3, od2.rd.ext b3⟩⟩
  clear hw c3 on1 od1 on2 od2
  go_upto_region 2 with (fail)
  rw [← HW.out]
  clear HW
  generalize Value.bool (decide (q1.num < 0)) = x0 at *
  generalize Value.slice an1 (limbs q1.num.natAbs).length cn1 = x1 at *
  generalize Value.slice ad1 (dens q1.den).length cd1 = x2 at *
  generalize Value.bool (decide (q2.num < 0)) = x3 at *
  generalize Value.slice an2 (limbs q2.num.natAbs).length cn2 = x4 at *
  generalize Value.slice ad2 (dens q2.den).length cd2 = x5 at *
  have b4 := drew_ext w3
  have XE := b4
  go_region_held3 (fun w' => w'.cell? ⟨w2.heap.size, 0, none⟩ = some (x0) ∧ w'.cell? ⟨w2.heap.size, 1, none⟩ = some (x1) ∧ w'.cell? ⟨w2.heap.size, 2, none⟩ = some (x2) ∧ w'.cell? ⟨w2.heap.size, 3, none⟩ = some (x3) ∧ w'.cell? ⟨w2.heap.size, 4, none⟩ = some (x4) ∧ w'.cell? ⟨w2.heap.size, 5, none⟩ = some (x5)) (exact (C3.out.ext XE).c6)
    (first
     | (go_at_call 46; refine (rcmp_to7 (O9.out.rd.ext b10) O10.out.rd ((S1.out.add (S2.out.mul S3.out)).le (by decide)) (S5.out.le (by decide)) H2.out).mono ?_; rintro e w11 ⟨_, rfl, b11, rfl⟩; (first | have XE := Ext.trans XE b11 | have XE := Ext.trans (Ext.trans XE (Ext.alloc _ _)) b11))
     | (go_at_call 62; refine (HI5.out w9).mono ?_; rintro e w10 ⟨v10, rfl, b10, o10⟩; have O10 := Lib.hid o10; clear o10; (first | have XE := Ext.trans XE b10 | have XE := Ext.trans (Ext.trans XE (Ext.alloc _ _)) b10))
     | (go_at_call 29; refine (dat_any (RD.out.ext (Ext.trans b4 (Ext.trans b5 (Ext.trans b6 (Ext.trans b7 b8))))) O8.out.rd (S1.out.le (by decide)) (S2.out.le (by decide)) (S3.out.le (by decide))).mono ?_; rintro e w9 ⟨v9, rfl, b9, o9⟩; have O9 := Lib.hid o9; clear o9; (first | have XE := Ext.trans XE b9 | have XE := Ext.trans (Ext.trans XE (Ext.alloc _ _)) b9))
     | (go_at_call 62; refine (HI3.out w7).mono ?_; rintro e w8 ⟨v8, rfl, b8, o8⟩; have O8 := Lib.hid o8; clear o8; (first | have XE := Ext.trans XE b8 | have XE := Ext.trans (Ext.trans XE (Ext.alloc _ _)) b8))
     | (go_at_call 88; refine (dcmp_to (RD.out.ext (Ext.trans b4 (Ext.trans b5 b6))) O6.out (S1.out.le (by decide)) (S2.out.le (by decide)) (S1.out.le (by decide)) (Sz.zero.le (by decide)) H1.out).mono ?_; rintro e w7 ⟨_, rfl, b7, rfl⟩; (first | have XE := Ext.trans XE b7 | have XE := Ext.trans (Ext.trans XE (Ext.alloc _ _)) b7))
     | (go_at_call 26; refine (dof_any O5.out.rd).mono ?_; rintro e w6 ⟨v6, rfl, b6, o6⟩; have O6 := Lib.hid o6; clear o6; (first | have XE := Ext.trans XE b6 | have XE := Ext.trans (Ext.trans XE (Ext.alloc _ _)) b6))
     | (go_at_call 62; refine (HI1.out _).mono ?_; rintro e w5 ⟨v5, rfl, b5, o5⟩; have O5 := Lib.hid o5; clear o5; (first | have XE := Ext.trans XE b5 | have XE := Ext.trans (Ext.trans XE (Ext.alloc _ _)) b5)))
  go_wp2_with fail
  exact hR.out _ _ (Gives.mk (Ext.trans b1 (Ext.trans b2 (Ext.trans b3 (Ext.trans b4 (Ext.trans b5 (Ext.trans b6 (Ext.trans b7 (Ext.trans b8 (Ext.trans b9 (Ext.trans b10 b11)))))))))) rfl)
end Go.Proofs.Ytpeeacdnjbcmiaa
