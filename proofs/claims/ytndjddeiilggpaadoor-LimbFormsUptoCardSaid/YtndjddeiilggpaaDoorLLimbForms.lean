/- LimbForms: of any lists of limbs, noughts at their ends or not, normal form, order, length in bits, single bits and twos are right. Conditions: the arguments hold together at most 1048576 values (the second form, Upto); the table of bits.TrailingZeros32 holds what the text lays. -/
import Derived.Test.YtndjddeiilggpaaDoorDoorTz
import Derived.Test.YtndjddeiilggpaaDoorPAwake02
import Derived.Test.YtndjddeiilggpaaDoorPRefOf
import Derived.Test.YtndjddeiilggpaaDoorPRefTo
import Derived.Test.YtndjddeiilggpaaDoorPRefSame
import Derived.Test.YtndjddeiilggpaaDoorPRefCmp
import Derived.Test.YtndjddeiilggpaaDoorPRefCopy
import Derived.Test.YtndjddeiilggpaaDoorPLimbCmp
import Derived.Test.YtndjddeiilggpaaDoorPLimbBit
import Derived.Test.YtndjddeiilggpaaDoorPLimbTwos
namespace Go.Proofs.YtndjddeiilggpaaDoor.limbForms
open Go.ChangeShapes Go.WideShapes Go.ChangeAt Go.RowKit Go.Att

theorem TabAt.ext {g : Nat} {tab : List Nat} {w w' : World} (h : TabAt g tab w) (x : Ext w w') : TabAt g tab w' := fun j hj => x.cell (h j hj)
set_option maxHeartbeats 4000000 in
set_option maxRecDepth 100000 in
theorem walk {w : World} {va vb : Value} {xa xb : List Nat} (ha : RdL w va xa) (hla : xa.length ≤ 1048576) (hb : RdL w vb xb) (hlb : xb.length ≤ 1048576) {u : Int} (hu : -9223372036854775808 ≤ u ∧ u ≤ 9223372036854775807) (hT : TabAt 0 Lib.deBruijn32tab w) :
    Calls Tryd.prog 3 #[va, vb, .int .i64 u] w (Gives w fun v' _ => v' = .bool true) := by
  refine via fun R hR => ?_
  have HA := Lib.hid ha
  have HB := Lib.hid hb
  have HT := Lib.hid hT
  have HS : Hid ((bitsOf (nv xa)).length ≤ 33554432) := Nat.le_trans (blen_nv ha.2) (Nat.mul_le_mul_left 32 hla)
  have HBL : Hid (((bitsOf (nv xa)).length : Int) = (blen (nv xa) : Int)) := by show _ = _; rw [bitsOf_blen]
  clear ha hb hT
  go_enter Tryd.func3, Tryd.ntmps3
  go_wp2_with fail
  refine (Of_any HA.out (by omega)).mono ?_
  rintro e w1 ⟨v1, rfl, b1, o1⟩
  have O1 := Lib.hid o1
  clear o1
  go_wp2_with fail
  refine (Of_any (HB.out.ext b1) (by omega)).mono ?_
  rintro e w2 ⟨v2, rfl, b2, o2⟩
  have O2 := Lib.hid o2
  clear o2
  have HO1 := Lib.hid (O1.out.rd.ext b2)
  have HO2 := Lib.hid O2.out.rd
  obtain ⟨a1, c1, rfl, hla1, hma1, _, hca1⟩ := HO1.out.shape
  have HC1 := Lib.hid hca1
  unfold maxLen at hma1
  clear hca1 O1 O2
  have HUB := Lib.hid hu
  clear hu
  go_wp2_with fail
  go_loopw [9] (fun i wr => ∃ k : Nat, i = .int .i64 k ∧ k ≤ (bitsOf (nv xa)).length ∧ w2 = wr ∧ Hid (nv xa % 2 ^ k = 0)) (fun i _ => (bitsOf (nv xa)).length - (intOf i).toNat)
  case atStart => exact ⟨0, rfl, Nat.zero_le _, rfl, Nat.mod_one _⟩
  case round =>
    obtain ⟨k, rfl, hk, rfl, hz⟩ := hrel
    go_upto_region 3 with (fail)
    go_cut [24] (fun s24 wx => s24 = .bool (decide (k < (bitsOf (nv xa)).length) && !nthB (bitsOf (nv xa)) k) ∧ w2 = wx)
    case first =>
      by_cases hlt : k < (bitsOf (nv xa)).length
      · obtain ⟨ba, oa, rfl, hc⟩ := HC1.out k hlt
        have hd := decide_eq_true hlt
        generalize nthB (bitsOf (nv xa)) k = bb at *
        go_wp2
        go_meet
        exact ⟨by rw [hd]; rfl, rfl⟩
      · have hd := decide_eq_false hlt
        go_wp2
        go_meet
        exact ⟨by rw [hd]; rfl, rfl⟩
    case rest =>
      obtain ⟨rfl, rfl⟩ := hcut
      by_cases hcd : (decide (k < (bitsOf (nv xa)).length) && !nthB (bitsOf (nv xa)) k) = true
      · have hlt : k < (bitsOf (nv xa)).length := by simp at hcd; exact hcd.1
        have hbb : nthB (bitsOf (nv xa)) k = false := by simp at hcd; exact hcd.2
        have HZ2 := Lib.hid (mod_succ _ _ hz.out hbb)
        rw [hcd]
        clear hcd hbb
        go_wp2
        go_roundw
        case rel => exact ⟨k + 1, by go_num, by omega, by simp, HZ2⟩
        case measure => simp [intOf] <;> omega
      · have hcf : (decide (k < (bitsOf (nv xa)).length) && !nthB (bitsOf (nv xa)) k) = false := by simpa using hcd
        have HK : Hid (IsTwos (nv xa) k) := twos_end hz.out hk fun h => by
          rw [decide_eq_true h, Bool.true_and] at hcf
          simpa using hcf
        rw [hcf]
        clear hcd hcf hz hk
        by_cases h0 : 0 ≤ u
        · obtain ⟨n, rfl⟩ := Int.eq_ofNat_of_zero_le h0
          clear h0
          have h0 : (0 : Int) ≤ (n : Int) := Int.natCast_nonneg n
          by_cases hn : n < (bitsOf (nv xa)).length
          · obtain ⟨ba, oa, rfl, hc⟩ := HC1.out n hn
            have HU : Hid ((decide (0 ≤ (n : Int)) && nthB (bitsOf (nv xa)) (n : Int).toNat) = nthB (bitsOf (nv xa)) n) := by show _ = _; rw [decide_eq_true h0, Bool.true_and, Int.toNat_natCast]
            have HCN := Lib.hid hc
            clear hc
            generalize nthB (bitsOf (nv xa)) n = bb at *
            go_upto_region 5 with (fail)
            go_wp2_with fail
            refine (awake02).mono ?_
            rintro e w3 ⟨_, rfl, b3, rfl⟩
            go_wp2_with fail
            refine (Copy_any (HA.out.ext (Ext.trans b1 (Ext.trans b2 b3))) (by omega)).mono ?_
            rintro e w4 ⟨v4, rfl, b4, o4⟩
            have O4 := Lib.hid o4
            clear o4
            go_wp2_with fail
            refine (norm_any O4.out.rd (by omega)).mono ?_
            rintro e w5 ⟨v5, rfl, b5, o5⟩
            have O5 := Lib.hid o5
            clear o5
            go_wp2_with fail
            refine (To_any (HO1.out.ext (Ext.trans b3 (Ext.trans b4 b5))) (by have := HS.out; omega)).mono ?_
            rintro e w6 ⟨v6, rfl, b6, o6⟩
            have O6 := Lib.hid o6
            clear o6
            go_wp2_with fail
            refine (Same_yes (O5.out.rd.ext b6) O6.out.rd (by rw [bval_bitsOf])).mono ?_
            rintro e w7 ⟨_, rfl, b7, rfl⟩
            go_wp2_with fail
            refine (Copy_any (HA.out.ext (Ext.trans b1 (Ext.trans b2 (Ext.trans b3 (Ext.trans b4 (Ext.trans b5 (Ext.trans b6 b7))))))) (by omega)).mono ?_
            rintro e w8 ⟨v8, rfl, b8, o8⟩
            have O8 := Lib.hid o8
            clear o8
            go_wp2_with fail
            refine (Copy_any (HB.out.ext (Ext.trans b1 (Ext.trans b2 (Ext.trans b3 (Ext.trans b4 (Ext.trans b5 (Ext.trans b6 (Ext.trans b7 b8)))))))) (by omega)).mono ?_
            rintro e w9 ⟨v9, rfl, b9, o9⟩
            have O9 := Lib.hid o9
            clear o9
            go_wp2_with fail
            refine (cmp_any (O8.out.rd.ext b9) O9.out.rd).mono ?_
            rintro e w10 ⟨_, rfl, b10, rfl⟩
            go_wp2_with fail
            refine (rCmp_any (nv xa) (nv xb) (HO1.out.ext (Ext.trans b3 (Ext.trans b4 (Ext.trans b5 (Ext.trans b6 (Ext.trans b7 (Ext.trans b8 (Ext.trans b9 b10)))))))) (HO2.out.ext (Ext.trans b3 (Ext.trans b4 (Ext.trans b5 (Ext.trans b6 (Ext.trans b7 (Ext.trans b8 (Ext.trans b9 b10))))))))).mono ?_
            rintro e w11 ⟨_, rfl, b11, rfl⟩
            go_wp2_with fail
            refine (Copy_any (HA.out.ext (Ext.trans b1 (Ext.trans b2 (Ext.trans b3 (Ext.trans b4 (Ext.trans b5 (Ext.trans b6 (Ext.trans b7 (Ext.trans b8 (Ext.trans b9 (Ext.trans b10 b11))))))))))) (by omega)).mono ?_
            rintro e w12 ⟨v12, rfl, b12, o12⟩
            have O12 := Lib.hid o12
            clear o12
            go_wp2_with fail
            refine (bits_any O12.out.rd (by omega)).mono ?_
            rintro e w13 ⟨_, rfl, b13, rfl⟩
            rw [← HBL.out]
            go_wp2_with fail
            refine (Copy_any (HA.out.ext (Ext.trans b1 (Ext.trans b2 (Ext.trans b3 (Ext.trans b4 (Ext.trans b5 (Ext.trans b6 (Ext.trans b7 (Ext.trans b8 (Ext.trans b9 (Ext.trans b10 (Ext.trans b11 (Ext.trans b12 b13))))))))))))) (by omega)).mono ?_
            rintro e w14 ⟨v14, rfl, b14, o14⟩
            have O14 := Lib.hid o14
            clear o14
            go_wp2_with fail
            refine (bit_any O14.out.rd HUB.out).mono ?_
            rintro e w15 ⟨_, rfl, b15, rfl⟩
            rw [HU.out]
            have hcn := Ext.cell (Ext.trans b3 (Ext.trans b4 (Ext.trans b5 (Ext.trans b6 (Ext.trans b7 (Ext.trans b8 (Ext.trans b9 (Ext.trans b10 (Ext.trans b11 (Ext.trans b12 (Ext.trans b13 (Ext.trans b14 b15)))))))))))) HCN.out
            go_wp2_with fail
            refine (Copy_any (HA.out.ext (Ext.trans b1 (Ext.trans b2 (Ext.trans b3 (Ext.trans b4 (Ext.trans b5 (Ext.trans b6 (Ext.trans b7 (Ext.trans b8 (Ext.trans b9 (Ext.trans b10 (Ext.trans b11 (Ext.trans b12 (Ext.trans b13 (Ext.trans b14 b15))))))))))))))) (by omega)).mono ?_
            rintro e w16 ⟨v16, rfl, b16, o16⟩
            have O16 := Lib.hid o16
            clear o16
            go_wp2_with fail
            refine (twos_any O16.out.rd (by omega) (TabAt.ext HT.out (Ext.trans b1 (Ext.trans b2 (Ext.trans b3 (Ext.trans b4 (Ext.trans b5 (Ext.trans b6 (Ext.trans b7 (Ext.trans b8 (Ext.trans b9 (Ext.trans b10 (Ext.trans b11 (Ext.trans b12 (Ext.trans b13 (Ext.trans b14 (Ext.trans b15 b16))))))))))))))))).mono ?_
            rintro e w17 ⟨_, rfl, b17, t, rfl, ht⟩
            obtain rfl : t = k := ht.inj HK.out
            go_wp2_with fail
            exact hR.out _ _ (Gives.mk (Ext.trans b1 (Ext.trans b2 (Ext.trans b3 (Ext.trans b4 (Ext.trans b5 (Ext.trans b6 (Ext.trans b7 (Ext.trans b8 (Ext.trans b9 (Ext.trans b10 (Ext.trans b11 (Ext.trans b12 (Ext.trans b13 (Ext.trans b14 (Ext.trans b15 (Ext.trans b16 b17)))))))))))))))) rfl)
          · have HU : Hid ((decide (0 ≤ (n : Int)) && nthB (bitsOf (nv xa)) (n : Int).toNat) = false) := by show _ = _; rw [Int.toNat_natCast, nthB_ge _ _ (by omega), Bool.and_false]
            go_upto_region 5 with (fail)
            go_wp2_with fail
            refine (awake02).mono ?_
            rintro e w3 ⟨_, rfl, b3, rfl⟩
            go_wp2_with fail
            refine (Copy_any (HA.out.ext (Ext.trans b1 (Ext.trans b2 b3))) (by omega)).mono ?_
            rintro e w4 ⟨v4, rfl, b4, o4⟩
            have O4 := Lib.hid o4
            clear o4
            go_wp2_with fail
            refine (norm_any O4.out.rd (by omega)).mono ?_
            rintro e w5 ⟨v5, rfl, b5, o5⟩
            have O5 := Lib.hid o5
            clear o5
            go_wp2_with fail
            refine (To_any (HO1.out.ext (Ext.trans b3 (Ext.trans b4 b5))) (by have := HS.out; omega)).mono ?_
            rintro e w6 ⟨v6, rfl, b6, o6⟩
            have O6 := Lib.hid o6
            clear o6
            go_wp2_with fail
            refine (Same_yes (O5.out.rd.ext b6) O6.out.rd (by rw [bval_bitsOf])).mono ?_
            rintro e w7 ⟨_, rfl, b7, rfl⟩
            go_wp2_with fail
            refine (Copy_any (HA.out.ext (Ext.trans b1 (Ext.trans b2 (Ext.trans b3 (Ext.trans b4 (Ext.trans b5 (Ext.trans b6 b7))))))) (by omega)).mono ?_
            rintro e w8 ⟨v8, rfl, b8, o8⟩
            have O8 := Lib.hid o8
            clear o8
            go_wp2_with fail
            refine (Copy_any (HB.out.ext (Ext.trans b1 (Ext.trans b2 (Ext.trans b3 (Ext.trans b4 (Ext.trans b5 (Ext.trans b6 (Ext.trans b7 b8)))))))) (by omega)).mono ?_
            rintro e w9 ⟨v9, rfl, b9, o9⟩
            have O9 := Lib.hid o9
            clear o9
            go_wp2_with fail
            refine (cmp_any (O8.out.rd.ext b9) O9.out.rd).mono ?_
            rintro e w10 ⟨_, rfl, b10, rfl⟩
            go_wp2_with fail
            refine (rCmp_any (nv xa) (nv xb) (HO1.out.ext (Ext.trans b3 (Ext.trans b4 (Ext.trans b5 (Ext.trans b6 (Ext.trans b7 (Ext.trans b8 (Ext.trans b9 b10)))))))) (HO2.out.ext (Ext.trans b3 (Ext.trans b4 (Ext.trans b5 (Ext.trans b6 (Ext.trans b7 (Ext.trans b8 (Ext.trans b9 b10))))))))).mono ?_
            rintro e w11 ⟨_, rfl, b11, rfl⟩
            go_wp2_with fail
            refine (Copy_any (HA.out.ext (Ext.trans b1 (Ext.trans b2 (Ext.trans b3 (Ext.trans b4 (Ext.trans b5 (Ext.trans b6 (Ext.trans b7 (Ext.trans b8 (Ext.trans b9 (Ext.trans b10 b11))))))))))) (by omega)).mono ?_
            rintro e w12 ⟨v12, rfl, b12, o12⟩
            have O12 := Lib.hid o12
            clear o12
            go_wp2_with fail
            refine (bits_any O12.out.rd (by omega)).mono ?_
            rintro e w13 ⟨_, rfl, b13, rfl⟩
            rw [← HBL.out]
            go_wp2_with fail
            refine (Copy_any (HA.out.ext (Ext.trans b1 (Ext.trans b2 (Ext.trans b3 (Ext.trans b4 (Ext.trans b5 (Ext.trans b6 (Ext.trans b7 (Ext.trans b8 (Ext.trans b9 (Ext.trans b10 (Ext.trans b11 (Ext.trans b12 b13))))))))))))) (by omega)).mono ?_
            rintro e w14 ⟨v14, rfl, b14, o14⟩
            have O14 := Lib.hid o14
            clear o14
            go_wp2_with fail
            refine (bit_any O14.out.rd HUB.out).mono ?_
            rintro e w15 ⟨_, rfl, b15, rfl⟩
            rw [HU.out]
            skip
            go_wp2_with fail
            refine (Copy_any (HA.out.ext (Ext.trans b1 (Ext.trans b2 (Ext.trans b3 (Ext.trans b4 (Ext.trans b5 (Ext.trans b6 (Ext.trans b7 (Ext.trans b8 (Ext.trans b9 (Ext.trans b10 (Ext.trans b11 (Ext.trans b12 (Ext.trans b13 (Ext.trans b14 b15))))))))))))))) (by omega)).mono ?_
            rintro e w16 ⟨v16, rfl, b16, o16⟩
            have O16 := Lib.hid o16
            clear o16
            go_wp2_with fail
            refine (twos_any O16.out.rd (by omega) (TabAt.ext HT.out (Ext.trans b1 (Ext.trans b2 (Ext.trans b3 (Ext.trans b4 (Ext.trans b5 (Ext.trans b6 (Ext.trans b7 (Ext.trans b8 (Ext.trans b9 (Ext.trans b10 (Ext.trans b11 (Ext.trans b12 (Ext.trans b13 (Ext.trans b14 (Ext.trans b15 b16))))))))))))))))).mono ?_
            rintro e w17 ⟨_, rfl, b17, t, rfl, ht⟩
            obtain rfl : t = k := ht.inj HK.out
            go_wp2_with fail
            exact hR.out _ _ (Gives.mk (Ext.trans b1 (Ext.trans b2 (Ext.trans b3 (Ext.trans b4 (Ext.trans b5 (Ext.trans b6 (Ext.trans b7 (Ext.trans b8 (Ext.trans b9 (Ext.trans b10 (Ext.trans b11 (Ext.trans b12 (Ext.trans b13 (Ext.trans b14 (Ext.trans b15 (Ext.trans b16 b17)))))))))))))))) rfl)
        · have hd : decide (0 ≤ u) = false := decide_eq_false h0
          have HU : Hid ((decide (0 ≤ u) && nthB (bitsOf (nv xa)) u.toNat) = false) := by show _ = _; rw [hd, Bool.false_and]
          go_upto_region 5 with (fail)
          go_wp2_with fail
          refine (awake02).mono ?_
          rintro e w3 ⟨_, rfl, b3, rfl⟩
          go_wp2_with fail
          refine (Copy_any (HA.out.ext (Ext.trans b1 (Ext.trans b2 b3))) (by omega)).mono ?_
          rintro e w4 ⟨v4, rfl, b4, o4⟩
          have O4 := Lib.hid o4
          clear o4
          go_wp2_with fail
          refine (norm_any O4.out.rd (by omega)).mono ?_
          rintro e w5 ⟨v5, rfl, b5, o5⟩
          have O5 := Lib.hid o5
          clear o5
          go_wp2_with fail
          refine (To_any (HO1.out.ext (Ext.trans b3 (Ext.trans b4 b5))) (by have := HS.out; omega)).mono ?_
          rintro e w6 ⟨v6, rfl, b6, o6⟩
          have O6 := Lib.hid o6
          clear o6
          go_wp2_with fail
          refine (Same_yes (O5.out.rd.ext b6) O6.out.rd (by rw [bval_bitsOf])).mono ?_
          rintro e w7 ⟨_, rfl, b7, rfl⟩
          go_wp2_with fail
          refine (Copy_any (HA.out.ext (Ext.trans b1 (Ext.trans b2 (Ext.trans b3 (Ext.trans b4 (Ext.trans b5 (Ext.trans b6 b7))))))) (by omega)).mono ?_
          rintro e w8 ⟨v8, rfl, b8, o8⟩
          have O8 := Lib.hid o8
          clear o8
          go_wp2_with fail
          refine (Copy_any (HB.out.ext (Ext.trans b1 (Ext.trans b2 (Ext.trans b3 (Ext.trans b4 (Ext.trans b5 (Ext.trans b6 (Ext.trans b7 b8)))))))) (by omega)).mono ?_
          rintro e w9 ⟨v9, rfl, b9, o9⟩
          have O9 := Lib.hid o9
          clear o9
          go_wp2_with fail
          refine (cmp_any (O8.out.rd.ext b9) O9.out.rd).mono ?_
          rintro e w10 ⟨_, rfl, b10, rfl⟩
          go_wp2_with fail
          refine (rCmp_any (nv xa) (nv xb) (HO1.out.ext (Ext.trans b3 (Ext.trans b4 (Ext.trans b5 (Ext.trans b6 (Ext.trans b7 (Ext.trans b8 (Ext.trans b9 b10)))))))) (HO2.out.ext (Ext.trans b3 (Ext.trans b4 (Ext.trans b5 (Ext.trans b6 (Ext.trans b7 (Ext.trans b8 (Ext.trans b9 b10))))))))).mono ?_
          rintro e w11 ⟨_, rfl, b11, rfl⟩
          go_wp2_with fail
          refine (Copy_any (HA.out.ext (Ext.trans b1 (Ext.trans b2 (Ext.trans b3 (Ext.trans b4 (Ext.trans b5 (Ext.trans b6 (Ext.trans b7 (Ext.trans b8 (Ext.trans b9 (Ext.trans b10 b11))))))))))) (by omega)).mono ?_
          rintro e w12 ⟨v12, rfl, b12, o12⟩
          have O12 := Lib.hid o12
          clear o12
          go_wp2_with fail
          refine (bits_any O12.out.rd (by omega)).mono ?_
          rintro e w13 ⟨_, rfl, b13, rfl⟩
          rw [← HBL.out]
          go_wp2_with fail
          refine (Copy_any (HA.out.ext (Ext.trans b1 (Ext.trans b2 (Ext.trans b3 (Ext.trans b4 (Ext.trans b5 (Ext.trans b6 (Ext.trans b7 (Ext.trans b8 (Ext.trans b9 (Ext.trans b10 (Ext.trans b11 (Ext.trans b12 b13))))))))))))) (by omega)).mono ?_
          rintro e w14 ⟨v14, rfl, b14, o14⟩
          have O14 := Lib.hid o14
          clear o14
          go_wp2_with fail
          refine (bit_any O14.out.rd HUB.out).mono ?_
          rintro e w15 ⟨_, rfl, b15, rfl⟩
          rw [HU.out]
          skip
          go_wp2_with fail
          refine (Copy_any (HA.out.ext (Ext.trans b1 (Ext.trans b2 (Ext.trans b3 (Ext.trans b4 (Ext.trans b5 (Ext.trans b6 (Ext.trans b7 (Ext.trans b8 (Ext.trans b9 (Ext.trans b10 (Ext.trans b11 (Ext.trans b12 (Ext.trans b13 (Ext.trans b14 b15))))))))))))))) (by omega)).mono ?_
          rintro e w16 ⟨v16, rfl, b16, o16⟩
          have O16 := Lib.hid o16
          clear o16
          go_wp2_with fail
          refine (twos_any O16.out.rd (by omega) (TabAt.ext HT.out (Ext.trans b1 (Ext.trans b2 (Ext.trans b3 (Ext.trans b4 (Ext.trans b5 (Ext.trans b6 (Ext.trans b7 (Ext.trans b8 (Ext.trans b9 (Ext.trans b10 (Ext.trans b11 (Ext.trans b12 (Ext.trans b13 (Ext.trans b14 (Ext.trans b15 b16))))))))))))))))).mono ?_
          rintro e w17 ⟨_, rfl, b17, t, rfl, ht⟩
          obtain rfl : t = k := ht.inj HK.out
          go_wp2_with fail
          exact hR.out _ _ (Gives.mk (Ext.trans b1 (Ext.trans b2 (Ext.trans b3 (Ext.trans b4 (Ext.trans b5 (Ext.trans b6 (Ext.trans b7 (Ext.trans b8 (Ext.trans b9 (Ext.trans b10 (Ext.trans b11 (Ext.trans b12 (Ext.trans b13 (Ext.trans b14 (Ext.trans b15 (Ext.trans b16 b17)))))))))))))))) rfl)
theorem own : ownKnob Tryd.prog.godebug = none := by kernel_rfl
theorem laidOut : laidOutB Tryd.prog = true := by kernel_rfl

set_option maxRecDepth 100000 in
theorem contract (H : Type) (enc : TypeId × Value → H) (W : World) (base : Nat) (args : Array Value) (ds gs : List (DataW H)) (before : List MemPlace)
    (hval : ∀ (j : Nat) t v, Tryd.f3.params[j]? = some t → args[j]? = some v → Value.okWide Tryd.prog W .any base t v)
    (hW : DataW.Whole enc Tryd.prog Tryd.f3.params.toList Rows.limbFormsSpec.vars false W args.toList ds gs before) (hk : Rows.uptoSmall H (ds ++ gs) = true) (hl : laidMetH Tryd.prog Rows.limbFormsUptoRow.laid W) :
    Calls Tryd.prog 3 args W fun e W' => ∃ v, e = .returned v ∧ Rows.limbFormsSpec.post enc Tryd.prog Tryd.f3 false true false false W args v W' := by
  have hW' := hW
  obtain ⟨p, q, hA0, hV, rfl, hfz, hnd⟩ := hW
  have hA : DataW.TrodAll enc Tryd.prog W 0 (fun _ => true) true Tryd.f3.params.toList args.toList ds p := hA0
  rw [Tryd.params3] at hA hval
  obtain ⟨v0, vs0, d0, ds0, p0, q0, hargs, rfl, rfl, h0, r0⟩ := trodAll_cons hA
  obtain ⟨v1, vs1, d1, ds1, p1, q1, rfl, rfl, rfl, h1, r1⟩ := trodAll_cons r0
  obtain ⟨v2, vs2, d2, ds2, p2, q2, rfl, rfl, rfl, h2, r2⟩ := trodAll_cons r1
  obtain ⟨rfl, rfl, rfl⟩ := trodAll_nil r2
  obtain rfl : args = #[v0, v1, v2] := by cases args; simp_all
  obtain ⟨rfl, rfl⟩ := trodVars_none hV
  have hb := bulk_small hk
  simp only [List.append_nil, bulk_cons, bulk_nil] at hb
  have k0 := h0
  have lt0 : ∀ x ∈ p0, x.block < W.heap.size := by obtain ⟨m, hm⟩ := k0; exact DataW.trod_lt m _ _ _ hm
  obtain ⟨x0, rd0, len0⟩ := open_u32s (hval 0 22 v0 rfl rfl) h0
  have k1 := h1
  have lt1 : ∀ x ∈ p1, x.block < W.heap.size := by obtain ⟨m, hm⟩ := k1; exact DataW.trod_lt m _ _ _ hm
  obtain ⟨x1, rd1, len1⟩ := open_u32s (hval 1 22 v1 rfl rfl) h1
  obtain ⟨a2, rfl, rfl, rfl, wf2⟩ := open_int Tryd.underlying3 (hval 2 3 v2 rfl rfl) h2
  clear hA0
  refine (walk rd0 (by omega) rd1 (by omega) (wf_int wf2) (tabAt hl)).mono fun e W' ⟨v, he, bel, hv⟩ => ?_
  subst he hv
  exact ⟨_, rfl, _, _, _, [], _, [], hW', trodAll_mk1 (shut_bool Tryd.underlying4 _), (trodAll_cons_mk (Below.trod laidOut (by kernel_rfl) (of_decide_eq_true (by kernel_rfl)) k0 bel lt0) (trodAll_cons_mk (Below.trod laidOut (by kernel_rfl) (of_decide_eq_true (by kernel_rfl)) k1 bel lt1) (trodAll_cons_mk (shut_int Tryd.underlying3 wf2) trodAll_mk0))), rfl, bel.frame _, fun h => by cases h⟩

theorem laid_met (os : Os) : laidMet Tryd.prog Rows.limbFormsUptoRow.laid ((laidWorld os).forCall (fun _ _ => 0) ⟨#[], #[.slice none 0 0, .slice none 0 0, .int .i64 0], []⟩).memory :=
  laidMet_of_run' 8 (by kernel_rfl) (by kernel_rfl)
theorem reads (os : Os) {H : Type} (enc : TypeId × Value → H) : ∃ places, DataW.whole enc Tryd.prog ((laidWorld os).forCall (fun _ _ => 0) ⟨#[], #[.slice none 0 0, .slice none 0 0, .int .i64 0], []⟩).memory Tryd.f3.params.toList Rows.limbFormsSpec.vars false (#[.slice none 0 0, .slice none 0 0, .int .i64 0] : Array Value).toList 8 = some ([.nil, .nil, .lit (.int .i64 0)], [], places) :=
  ⟨[], by kernel_rfl⟩

set_option maxRecDepth 100000 in
theorem lifted (os : Os) (started : os.Started) (H : Type) (enc : TypeId × Value → H) (F : Stop.Interp) :
    ReturnsInHanded {} Tryd.checked os 3 .any ((Rows.OpenSpec.upto Rows.limbFormsSpec).preRow enc Tryd.prog Tryd.f3 Rows.limbFormsUptoRow.domain false Rows.limbFormsUptoRow.laid) (((Rows.OpenSpec.upto Rows.limbFormsSpec).at F).post enc Tryd.prog Tryd.f3 false true false false) := by
  obtain ⟨places, hx⟩ := reads os enc
  refine returnsInHanded_of_row (C := Tryd.checked) (s := Rows.OpenSpec.upto Rows.limbFormsSpec) own started (by kernel_rfl) Tryd.func3
    (witness_row_at (enc := enc) (C := Tryd.checked) false (laidWorld os) #[.slice none 0 0, .slice none 0 0, .int .i64 0] rfl (by kernel_rfl) (by kernel_rfl) (by kernel_rfl)
      (OpenSpec.preRow_of_cond 8 hx (by kernel_rfl) (fun k hk => by cases hk; kernel_rfl) (by kernel_rfl) (laid_met os))) ?_
  intro W base args ds gs before hval hW _ hcond _ hl _ _
  exact contract H enc W base args ds gs before hval hW (hcond _ rfl) hl

theorem said : Rows.LimbFormsUptoSaid :=
  OpenClaim.holds_of_cond 3 Tryd.f3 rfl rfl rfl rfl rfl rfl rfl ⟨rfl, rfl, rfl, rfl, rfl⟩ rfl rfl rfl rfl rfl (by kernel_rfl) Tryd.func3 (by kernel_rfl)
    (of_decide_eq_true (by kernel_rfl)) (by unfold Func.isWrapper; first | (rw [if_pos (by decide +kernel)]; kernel_rfl) | (rw [if_neg (by decide +kernel)]; exact ⟨rfl, rfl⟩))
    (fun os started H enc _ F => by rw [OpenClaim.pre_eq_preRow]; exact lifted os started H enc F)

/-- No parameter wants a stand-in; the program's own looks are off: what the card asks. -/
theorem plain (f : FuncId) (fn : Func) (hf : Tryd.pinned.checked.prog.funcNamed "attest/attestlaw02.LimbForms" = some f) (hfn : Tryd.pinned.checked.prog.funcs[f]? = some fn) :
    false = Tryd.pinned.checked.prog.looks [] ∧ ∀ (j : Nat) t, fn.params[j]? = some t → Tryd.pinned.checked.prog.wantsStandIn t = false := by
  obtain rfl : f = 3 := Option.some.inj ((show Tryd.prog.funcNamed "attest/attestlaw02.LimbForms" = some 3 by kernel_rfl).symm.trans hf) |>.symm
  obtain rfl : fn = Tryd.f3 := (Option.some.inj (Tryd.func3.symm.trans hfn)).symm
  refine ⟨by kernel_rfl, fun j t ht => ?_⟩
  rw [Tryd.params3] at ht
  have hm : t ∈ #[22, 22, 3] := Array.mem_of_getElem? ht
  simp only [List.mem_toArray, List.mem_cons, List.not_mem_nil, or_false] at hm
  rcases hm with rfl | rfl | rfl
  · exact (show Tryd.prog.wantsStandIn 22 = false by kernel_rfl)
  · exact (show Tryd.prog.wantsStandIn 22 = false by kernel_rfl)
  · exact (show Tryd.prog.wantsStandIn 3 = false by kernel_rfl)

/-- The card. -/
theorem proved : Rows.LimbFormsUptoCardSaid :=
  Claim7.holds_tied_plain_at .later [] _ _ _ _ said (fun _ h => by cases h) (by kernel_rfl) (fun _ h => by cases h) limbFormsUpto_row_tie rfl ⟨rfl, rfl⟩ (by kernel_rfl) rfl plain (by kernel_rfl)
#print axioms proved

end Go.Proofs.YtndjddeiilggpaaDoor.limbForms
