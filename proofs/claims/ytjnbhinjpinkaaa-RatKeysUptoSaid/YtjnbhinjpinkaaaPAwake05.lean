/- attestlaw05.awake -/
import Derived.Test.YtjnbhinjpinkaaaPRatFrac
import Derived.Test.YtjnbhinjpinkaaaPRatParts
import Derived.Test.YtjnbhinjpinkaaaRefAll
namespace Go.Proofs.Ytjnbhinjpinkaaa
open Go.RowKit Go.Att

theorem awake_frac : (((-6 : Int) : Rat) / ((4 : Int) : Rat)).num = -3 ∧ (((-6 : Int) : Rat) / ((4 : Int) : Rat)).den = 2 := by decide +kernel
theorem awake05 {w : World} : Calls Try.prog 25 #[] w (Gives w fun v' _ => v' = .bool true) := by
  refine via fun R hR => ?_
  have hn := awake_frac.1
  have hd := awake_frac.2
  have HF := @rfrac_any w (-6) 4 (by omega) (by omega) (by omega)
  generalize ((-6 : Int) : Rat) / ((4 : Int) : Rat) = q at *
  have HN : Hid (limbs q.num.natAbs = [3]) := by show _ = _; rw [hn]; exact limbs_one (by decide) (by decide)
  have HD : Hid (limbs q.den = [2]) := by show _ = _; rw [hd]; exact limbs_one (by decide) (by decide)
  have HS : Hid (decide (q.num < 0) = true) := by show _ = _; rw [hn]; rfl
  have HF' := Lib.hid HF
  clear HF hn hd
  go_enter Try.func25, Try.ntmps25
  go_wp2_with fail
  refine (HF'.out).mono ?_
  rintro e w2 ⟨_, rfl, b2, _, rfl, n2, d2, rfl, on2, od2⟩
  have ON2 := Lib.hid on2
  have OD2 := Lib.hid od2
  clear on2 od2
  obtain ⟨an2, cn2, rfl, -, -, -, -⟩ := ON2.out.rd.1.shape
  obtain ⟨ad2, cd2, rfl, -, -, -, -⟩ := OD2.out.rd.1.shape
  obtain ⟨w3, hw3, b3, c4, _, z3⟩ := box1 w2 (.bool (decide (q.num < 0))) (.slice an2 (limbs q.num.natAbs).length cn2) (.slice ad2 (dens q.den).length cd2) 36
  have HW := Lib.hid hw3
  have C4 := Lib.hid c4
  clear hw3 c4
  go_upto_region 2 with (fail)
  rw [← HW.out]
  clear HW
  obtain ⟨l0, l1, l2⟩ := C4.out
  have HQ : Hid (RdQ w3 (.agg #[.bool (decide (q.num < 0)), .slice an2 (limbs q.num.natAbs).length cn2, .slice ad2 (dens q.den).length cd2]) q) := ⟨_, _, rfl, ON2.out.rd.ext b3, OD2.out.rd.ext b3⟩
  go_wp2_with fail
  refine (parts_any HQ.out (by rw [HN.out]; decide) (by rw [HD.out]; decide)).mono ?_
  rintro e w4 ⟨_, rfl, b4, v4, v5, rfl, o4, o5⟩
  have O4 := Lib.hid o4
  have O5 := Lib.hid o5
  clear o4 o5 l0 l1 l2
  rw [HN.out] at O4
  rw [HD.out] at O5
  rw [HS.out]
  go_wp2_with fail
  refine (Same_yes (O4.out.rd.ext (Ext.alloc _ _)) (lit1_rd w4 3 (by decide)) rfl).mono ?_
  rintro e w5 ⟨_, rfl, b5, rfl⟩
  go_wp2_with fail
  refine (Same_yes (O5.out.rd.ext (((Ext.alloc _ _).trans b5).trans (Ext.alloc _ _))) (lit1_rd w5 2 (by decide)) rfl).mono ?_
  rintro e w6 ⟨_, rfl, b6, rfl⟩
  go_wp2_with fail
  exact hR.out _ _ (Gives.mk (by repeat (first | exact Ext.refl _ | refine Ext.trans ?_ (Ext.alloc _ _) | refine Ext.trans ?_ (drew_ext _) | refine Ext.trans ?_ ba | refine Ext.trans ?_ b40 | refine Ext.trans ?_ b39 | refine Ext.trans ?_ b38 | refine Ext.trans ?_ b37 | refine Ext.trans ?_ b36 | refine Ext.trans ?_ b35 | refine Ext.trans ?_ b34 | refine Ext.trans ?_ b33 | refine Ext.trans ?_ b32 | refine Ext.trans ?_ b31 | refine Ext.trans ?_ b30 | refine Ext.trans ?_ b29 | refine Ext.trans ?_ b28 | refine Ext.trans ?_ b27 | refine Ext.trans ?_ b26 | refine Ext.trans ?_ b25 | refine Ext.trans ?_ b24 | refine Ext.trans ?_ b23 | refine Ext.trans ?_ b22 | refine Ext.trans ?_ b21 | refine Ext.trans ?_ b20 | refine Ext.trans ?_ b19 | refine Ext.trans ?_ b18 | refine Ext.trans ?_ b17 | refine Ext.trans ?_ b16 | refine Ext.trans ?_ b15 | refine Ext.trans ?_ b14 | refine Ext.trans ?_ b13 | refine Ext.trans ?_ b12 | refine Ext.trans ?_ b11 | refine Ext.trans ?_ b10 | refine Ext.trans ?_ b9 | refine Ext.trans ?_ b8 | refine Ext.trans ?_ b7 | refine Ext.trans ?_ b6 | refine Ext.trans ?_ b5 | refine Ext.trans ?_ b4 | refine Ext.trans ?_ b3 | refine Ext.trans ?_ b2 | refine Ext.trans ?_ b1)) rfl)
end Go.Proofs.Ytjnbhinjpinkaaa
