/- RtextNear: a decimal text lies towards 0 from its number by less than one unit of its last digit. Conditions: the arguments hold together at most 1048576 values (the second form, Upto); the two tables of unicode/utf8 hold what the text lays. -/
import Derived.Test.YtgajpmcjjefghaaGreatDoorDoor
import Derived.Test.YtgajpmcjjefghaaGreatDoorFrameN
import Derived.Test.YtgajpmcjjefghaaGreatDoorPAwake06
import Derived.Test.YtgajpmcjjefghaaGreatDoorPRtNear
import Derived.Test.YtgajpmcjjefghaaGreatDoorPBoth06
import Derived.Test.YtgajpmcjjefghaaGreatDoorRatAll
import Derived.Test.YtgajpmcjjefghaaGreatDoorPRef5Int
import Derived.Test.YtgajpmcjjefghaaGreatDoorPRef5Low
namespace Go.Proofs.YtgajpmcjjefghaaGreatDoor.rtextNear
open Go.ChangeShapes Go.WideShapes Go.ChangeAt Go.RowKit Go.Att

theorem cell_lt {w : World} {b : Nat} {x : Value} {cs : List Value} (h : Bx w b (x :: cs)) : b < w.heap.size := World.block_lt_of_cell? w _ h.c1
set_option linter.unusedSimpArgs false in
set_option maxHeartbeats 20000000 in
set_option maxRecDepth 100000 in
theorem walk {w : World} {v : Value} {s : Bool} {x y : List Nat} {n : Int} (hv : RdN w v s x y) (hx : x.length ≤ 1048576) (hy : y.length ≤ 1048576) (_hn : -9223372036854775808 ≤ n ∧ n ≤ 9223372036854775807) (hm : ∃ m, w.cell? ⟨0, 0, none⟩ = some (.int .i64 m)) :
    Calls Tryz.prog 4 #[v, .int .i64 n] w (Gives w fun v' _ => v' = .bool true) := by
  refine via fun R hR => ?_
  have HV := Lib.hid hv
  have HM : Hid (∀ w', Ext w w' → ∃ m, w'.cell? ⟨0, 0, none⟩ = some (.int .i64 m)) := fun w' x => by
    obtain ⟨m, hm⟩ := hm
    exact ⟨m, x.cell hm⟩
  have SQ : Hid (Sz 8 (qOf s x y)) := by obtain ⟨_, _, _, h1, h2⟩ := hv; exact qOf_sz h1.2 h2.2
  have HBO : Hid (∀ (w : World) (v : Value), RdN w v s x y → Calls Tryz.prog 5 #[v] w (Gives w fun v' w' => ∃ o1 o2, v' = .tuple #[o1, o2] ∧ OwnQ 57 w.heap.size w' o1 (qOf s x y) ∧ OwnP 4 w.heap.size w' o2 (qOf s x y))) := fun w v h => both_any h (by omega) (by omega)
  obtain ⟨t1, t2, rfl, -, -⟩ := hv
  generalize qOf s x y = q at *
  obtain ⟨w1, hw1, b1, c1, -, -⟩ := bx1 w [.bool s, t1, t2] 24
  have C1 := Lib.hid c1
  have HW := Lib.hid hw1
  clear hw1 c1 hm
  go_enter Tryz.func4, Tryz.ntmps4
  go_upto_region 1 with (fail)
  rw [← HW.out]
  clear HW
  obtain ⟨k0, k1, k2⟩ := C1.out.c3
  go_wp2_with fail
  clear k0 k1 k2
  refine (HBO.out _ _ (HV.out.ext b1)).mono ?_
  rintro e w2 ⟨_, rfl, b2, o1, o2, rfl, hO, hP⟩
  obtain ⟨z2, d5, n5, e5, d6, n6, e6, rfl, O7⟩ := hO.op
  obtain ⟨z3, d7, n7, e7, d8, n8, e8, rfl, P7⟩ := hP.op
  clear hO hP
  obtain ⟨w3, hw3, b3, c3, c4, -, -, -⟩ := bx2 w2 [.bool z2, .slice d5 n5 e5, .slice d6 n6 e6] [.bool z3, .slice d7 n7 e7, .slice d8 n8 e8] 26 29
  have HW := Lib.hid hw3
  have C3 := Lib.hid c3
  have C4 := Lib.hid c4
  clear hw3 c3 c4
  go_upto_region 2 with (fail)
  rw [← HW.out]
  clear HW
  have RQ := Lib.hid (O7.out.rd.ext b3)
  have RP := Lib.hid (P7.out.rd.ext b3)
  have HTR : Hid (∀ w', Ext w w' → R (.returned (.bool true)) w') := fun w' x => hR.out _ _ (Gives.mk x rfl)
  clear hR
  obtain ⟨t, ht⟩ : ∃ t, n.tmod 40 = t := ⟨_, rfl⟩
  have htb : -40 < t ∧ t < 40 := by rw [← ht]; exact ⟨Int.lt_tmod_of_pos n (by decide), Int.tmod_lt_of_pos n (by decide)⟩
  obtain ⟨k, hk⟩ : ∃ k : Nat, t.natAbs = k := ⟨_, rfl⟩
  have hk40 : k < 40 := by omega
  go_upto_if 25 with (fail)
  go_cut [7] (fun s7 wx => s7 = .int .i64 k ∧ wx = w3)
  case first =>
    by_cases h0 : t < 0
    · have hd0 : decide (t < 0) = true := decide_eq_true h0
      have hw : -t = (k : Int) := by omega
      go_wp2_with fail
      go_meet
      exact ⟨rfl, rfl⟩
    · have hd0 : decide (t < 0) = false := decide_eq_false h0
      have hw : t = (k : Int) := by omega
      subst hw
      go_wp2_with fail
      go_meet
      exact ⟨rfl, rfl⟩
  case rest =>
    obtain ⟨rfl, hwc⟩ := hcut
    have hwc2 := hwc.symm
    clear hwc
    subst hwc2
    have HDE : Hid (Calls Tryz.prog 13 #[.agg #[.bool z2, .slice d5 n5 e5, .slice d6 n6 e6], .int .i64 k] w3 (Gives w3 fun v' _ => v' = .tuple #[.string (strOf (decT q k)), .int .i64 0])) := dec_any k (by omega) RQ.out SQ.out
    have HPA : Hid (∀ w', Ext w w' → Calls Tryz.prog 11 #[.string (strOf (decT q k))] w' (Gives w' fun v' w'' => ∃ o, v' = .tuple #[o, .int .i64 0] ∧ OwnQ 57 0 w'' o (decV q k))) := fun w' x => by
      have h := rtparse_any (w := w') (decT_fit q k) (decT_len SQ.out (by omega)) (HM.out _ x)
      rw [read_dec] at h
      exact h
    generalize strOf (decT q k) = S at *
    clear ht hk htb
    obtain ⟨k0, k1, k2⟩ := C3.out.c3
    go_wp2_with fail
    clear k0 k1 k2
    refine HDE.out.mono ?_
    rintro e w4 ⟨_, rfl, b4, rfl⟩
    go_wp2_with fail
    refine (HPA.out _ (Ext.trans b1 (Ext.trans b2 (Ext.trans b3 b4)))).mono ?_
    rintro e w5 ⟨_, rfl, b5, o, rfl, o1⟩
    obtain ⟨z4, d4, n4, e4, d9, n9, e9, rfl, Q5⟩ := o1.op
    clear o1
    obtain ⟨w6, hw, b6, hb6⟩ : ∃ W, W = w5.alloc (.cells #[.bool z4, .slice d4 n4 e4, .slice d9 n9 e9] 26) ∧ Ext w5 W ∧ Bq 57 26 W w5.heap.size (decV q k) := ⟨_, rfl, Ext.alloc _ _, Bq.new Q5.out⟩
    have HW := Lib.hid hw
    have D6 := Lib.hid hb6
    have C6 : Hid (Bx w6 w5.heap.size [.bool z4, .slice d4 n4 e4, .slice d9 n9 e9]) := by show Bx w6 _ _; rw [hw]; exact Bx.new w5 [.bool z4, .slice d4 n4 e4, .slice d9 n9 e9] 26
    have QD6 : Hid (RdQ w6 (.agg #[.bool z4, .slice d4 n4 e4, .slice d9 n9 e9]) (decV q k)) := Q5.out.rd.ext b6
    clear hw hb6 Q5 HDE HPA
    go_upto_region 7 with (fail)
    rw [← HW.out]
    clear HW
    have HI1 : Hid (∀ w, Calls Tryz.prog 14 #[.int .i64 1] w (Gives w fun v' w' => OwnQ 57 w.heap.size w' v' (uQ 0))) := fun w => rint_any (by omega)
    have HFR : Hid (∀ w, Calls Tryz.prog 15 #[.int .i64 1, .int .i64 10] w (Gives w fun v' w' => ∃ o, v' = .tuple #[o, .bool true] ∧ OwnQ 57 w.heap.size w' o (((1 : Int) : Rat) / ((10 : Int) : Rat)))) := fun w => rfrac_any (by omega) (by omega) (by decide)
    have HST : Hid (Sz 8 (((1 : Int) : Rat) / ((10 : Int) : Rat))) := by
      have h := uQ_eq 1
      have h2 := uQ_sz (k := 1) (by decide)
      have h3 : uQ 1 = ((1 : Int) : Rat) / ((10 : Int) : Rat) := by show ((1 : Int) : Rat) * _ = _; exact Rat.one_mul _
      rwa [h3] at h2
    have HUS : Hid (∀ j, uQ (j + 1) = uQ j * (((1 : Int) : Rat) / ((10 : Int) : Rat))) := fun _ => rfl
    generalize ((1 : Int) : Rat) / ((10 : Int) : Rat) = tn at *
    go_wp2_with fail
    refine (HI1.out _).mono ?_
    rintro e w7 ⟨_, rfl, b7, o7⟩
    obtain ⟨z7, d7, n7, e7, d8, n8, e8, rfl, Q7⟩ := o7.op
    clear o7
    obtain ⟨w8, hw, b8, hb8⟩ : ∃ W, W = w7.alloc (.cells #[.bool z7, .slice d7 n7 e7, .slice d8 n8 e8] 26) ∧ Ext w7 W ∧ Bq 57 26 W w7.heap.size (uQ 0) := ⟨_, rfl, Ext.alloc _ _, Bq.new (Q7.out.mono (Nat.zero_le _))⟩
    have HW := Lib.hid hw
    have U8 := Lib.hid hb8
    have hz8 : w8.heap.size = w7.heap.size + 1 := by rw [hw]; simp
    clear hw hb8 Q7
    go_upto_region 8 with (fail)
    rw [← HW.out]
    clear HW
    go_wp2_with fail
    refine (HFR.out _).mono ?_
    rintro e w9 ⟨_, rfl, b9, o, rfl, o9⟩
    obtain ⟨zt, dt, nt, et, du, nu, eu, rfl, Q9⟩ := o9.op
    clear o9
    obtain ⟨w10, hw, b10, hb10⟩ : ∃ W, W = w9.alloc (.cells #[.bool zt, .slice dt nt et, .slice du nu eu] 26) ∧ Ext w9 W ∧ Bq 57 26 W w9.heap.size tn := ⟨_, rfl, Ext.alloc _ _, Bq.new (Q9.out.mono (Nat.zero_le _))⟩
    have HW := Lib.hid hw
    have T10 := Lib.hid hb10
    have hz10 : w10.heap.size = w9.heap.size + 1 := by rw [hw]; simp
    clear hw hb10 Q9
    go_upto_region 9 with (fail)
    rw [← HW.out]
    clear HW
    have hs9 := b9.size
    have hs7 := b7.size
    have hne : w7.heap.size ≠ w9.heap.size := by omega
    obtain ⟨BU, hBU⟩ : ∃ BU, w7.heap.size = BU := ⟨_, rfl⟩
    obtain ⟨BT, hBT⟩ : ∃ BT, w9.heap.size = BT := ⟨_, rfl⟩
    rw [hBU] at U8 hne ⊢
    rw [hBT] at T10 hne ⊢
    have hBU6 : w6.heap.size ≤ BU := by omega
    clear hBU hBT
    go_wp2_with fail
    go_loopw [15] (fun i wr => ∃ j : Nat, i = .int .i64 j ∧ j ≤ k ∧ Ext w6 wr ∧ Hid (Bq 57 26 wr BU (uQ j)) ∧ Hid (Bq 57 26 wr BT tn)) (fun i _ => k - (intOf i).toNat)
    case atStart => exact ⟨0, rfl, Nat.zero_le _, (Ext.trans b7 (Ext.trans b8 (Ext.trans b9 b10))), U8.out.ext (Ext.trans b9 b10), T10.out⟩
    case round =>
      obtain ⟨j, rfl, hj, hx, hU, hT⟩ := hrel
      by_cases hjk : j = k
      · subst hjk
        have hlt : decide ((j : Int) < (j : Int)) = false := decide_eq_false (by omega)
        obtain ⟨s1, a1, l7, c7, a2, l8, c8, cU, rU, qU⟩ := hU.out.op
        have RU0 : Hid (RdQ wr (.agg #[.bool s1, .slice a1 l7 c7, .slice a2 l8 c8]) (uQ j)) := qU.out.rd
        obtain ⟨w11, hw11⟩ : ∃ w11 : World, w11 = wr := ⟨_, rfl⟩
        subst hw11
        have b011 : Ext w w11 := Ext.trans (Ext.trans b1 (Ext.trans b2 (Ext.trans b3 (Ext.trans b4 (Ext.trans b5 b6))))) hx
        have D3 : Hid (Box3 w11 w2.heap.size (.bool z2) (.slice d5 n5 e5) (.slice d6 n6 e6)) := (C3.out.ext (Ext.trans (Ext.trans b4 (Ext.trans b5 b6)) hx)).c3
        have D5 : Hid (Box3 w11 w5.heap.size (.bool z4) (.slice d4 n4 e4) (.slice d9 n9 e9)) := (C6.out.ext hx).c3
        have DU : Hid (Box3 w11 BU (.bool s1) (.slice a1 l7 c7) (.slice a2 l8 c8)) := cU.out.c3
        have RQ11 := Lib.hid (RQ.out.ext (Ext.trans (Ext.trans b4 (Ext.trans b5 b6)) hx))
        have RD11 := Lib.hid (QD6.out.ext hx)
        have SQ2 := Lib.hid (SQ.out.absQ)
        have SD : Hid (Sz 134 (decV q j)) := decV_sz SQ.out (by omega)
        have SOF : Hid (Sz 143 (absQ q - absQ (decV q j))) := SQ.out.absQ.sub SD.out.absQ
        have HSUB : Hid (∀ w va vb, RdQ w va (absQ q) → RdQ w vb (absQ (decV q j)) → Calls Tryz.prog 17 #[va, vb] w (Gives w fun v' w' => OwnQ 57 w.heap.size w' v' (absQ q - absQ (decV q j)))) := fun w va vb h1 h2 => rsub_any h1 h2 (SQ.out.absQ.le (by decide)) (SD.out.absQ.le (by decide))
        have NLO := near_lo q j
        have NHI := near_hi q j
        have NSG := dec_sign q j
        have HCO : Hid (∀ w va vb, RdQ w va (absQ q - absQ (decV q j)) → RdQ w vb (uQ j) → Calls Tryz.prog 12 #[va, vb] w (Gives w fun v' _ => v' = .int .i64 (-1))) := fun w va vb h1 h2 => rcmp_to7 h1 h2 (SOF.out.le (by decide)) ((uQ_sz (by omega)).le (by decide)) (Int.sign_eq_neg_one_of_neg (Int.sign_neg_iff.1 NHI))
        have HSO : Hid (∀ w v, RdQ w v (absQ q - absQ (decV q j)) → Calls Tryz.prog 19 #[v] w (Gives w fun v' _ => v' = .int .i64 (absQ q - absQ (decV q j)).num.sign)) := fun w v h => rsign_any h
        have HSD : Hid (∀ w v, RdQ w v (decV q j) → Calls Tryz.prog 19 #[v] w (Gives w fun v' _ => v' = .int .i64 (decV q j).num.sign)) := fun w v h => rsign_any h
        have HSX : Hid (∀ w v, RdQ w v q → Calls Tryz.prog 19 #[v] w (Gives w fun v' _ => v' = .int .i64 q.num.sign)) := fun w v h => rsign_any h
        generalize (absQ q - absQ (decV q j)).num.sign = so at *
        generalize (decV q j).num.sign = sd at *
        generalize q.num.sign = sx at *
        generalize absQ q - absQ (decV q j) = off at *
        clear NHI SOF SD SQ2 HUS
        generalize decV q j = dv at *
        generalize uQ j = u at *
        have h2s : w2.heap.size < w3.heap.size := cell_lt C3.out
        have h5s : w5.heap.size < w6.heap.size := cell_lt C6.out
        have h36 : w3.heap.size ≤ w6.heap.size := Below.size (Ext.trans b4 (Ext.trans b5 b6))
        have h6x : w6.heap.size ≤ w11.heap.size := Below.size hx
        have hsq : Hid (w2.heap.size < w11.heap.size ∧ w5.heap.size < w11.heap.size) := ⟨by omega, by omega⟩
        have hso : decide (0 ≤ so) = true := decide_eq_true NLO
        clear NLO C3 C4 RP D6 U8 T10 hU hT cU rU qU
        go_upto_region 13 with (fail)
        go_cut [16] (fun s16 wx => Ext w11 wx ∧ ∃ B s0 p0 l0 c0 p1 l1 c1, s16 = .pointer (some ⟨B, 0, none⟩) ∧ Hid (Box3 wx B (.bool s0) (.slice p0 l0 c0) (.slice p1 l1 c1)) ∧ Hid (RdQ wx (.agg #[.bool s0, .slice p0 l0 c0, .slice p1 l1 c1]) off))
        case first =>
          have b12 := drew_ext w11
          refine wp_region_noPanic ?_
          refine wp_region_held_drew (S := fun w' => (w'.cell? ⟨w2.heap.size, 0, none⟩ = some (.bool z2) ∧ w'.cell? ⟨w2.heap.size, 1, none⟩ = some (.slice d5 n5 e5) ∧ w'.cell? ⟨w2.heap.size, 2, none⟩ = some (.slice d6 n6 e6)) ∧ (w'.cell? ⟨w5.heap.size, 0, none⟩ = some (.bool z4) ∧ w'.cell? ⟨w5.heap.size, 1, none⟩ = some (.slice d4 n4 e4) ∧ w'.cell? ⟨w5.heap.size, 2, none⟩ = some (.slice d9 n9 e9))) (by kernel_rfl) (⟨D3.out.ext (by repeat (first | exact Ext.refl _ | refine Ext.trans ?_ (Ext.alloc _ _) | refine Ext.trans ?_ (drew_ext _) | refine Ext.trans ?_ ba | refine Ext.trans ?_ b40 | refine Ext.trans ?_ b39 | refine Ext.trans ?_ b38 | refine Ext.trans ?_ b37 | refine Ext.trans ?_ b36 | refine Ext.trans ?_ b35 | refine Ext.trans ?_ b34 | refine Ext.trans ?_ b33 | refine Ext.trans ?_ b32 | refine Ext.trans ?_ b31 | refine Ext.trans ?_ b30 | refine Ext.trans ?_ b29 | refine Ext.trans ?_ b28 | refine Ext.trans ?_ b27 | refine Ext.trans ?_ b26 | refine Ext.trans ?_ b25 | refine Ext.trans ?_ b24 | refine Ext.trans ?_ b23 | refine Ext.trans ?_ b22 | refine Ext.trans ?_ b21 | refine Ext.trans ?_ b20 | refine Ext.trans ?_ b19 | refine Ext.trans ?_ b18 | refine Ext.trans ?_ b17 | refine Ext.trans ?_ b16 | refine Ext.trans ?_ b15 | refine Ext.trans ?_ b14 | refine Ext.trans ?_ b13 | refine Ext.trans ?_ b12 | refine Ext.trans ?_ b11 | refine Ext.trans ?_ b10 | refine Ext.trans ?_ b9 | refine Ext.trans ?_ b8 | refine Ext.trans ?_ b7 | refine Ext.trans ?_ b6 | refine Ext.trans ?_ b5 | refine Ext.trans ?_ b4 | refine Ext.trans ?_ b3 | refine Ext.trans ?_ b2 | refine Ext.trans ?_ b1)), D5.out.ext (by repeat (first | exact Ext.refl _ | refine Ext.trans ?_ (Ext.alloc _ _) | refine Ext.trans ?_ (drew_ext _) | refine Ext.trans ?_ ba | refine Ext.trans ?_ b40 | refine Ext.trans ?_ b39 | refine Ext.trans ?_ b38 | refine Ext.trans ?_ b37 | refine Ext.trans ?_ b36 | refine Ext.trans ?_ b35 | refine Ext.trans ?_ b34 | refine Ext.trans ?_ b33 | refine Ext.trans ?_ b32 | refine Ext.trans ?_ b31 | refine Ext.trans ?_ b30 | refine Ext.trans ?_ b29 | refine Ext.trans ?_ b28 | refine Ext.trans ?_ b27 | refine Ext.trans ?_ b26 | refine Ext.trans ?_ b25 | refine Ext.trans ?_ b24 | refine Ext.trans ?_ b23 | refine Ext.trans ?_ b22 | refine Ext.trans ?_ b21 | refine Ext.trans ?_ b20 | refine Ext.trans ?_ b19 | refine Ext.trans ?_ b18 | refine Ext.trans ?_ b17 | refine Ext.trans ?_ b16 | refine Ext.trans ?_ b15 | refine Ext.trans ?_ b14 | refine Ext.trans ?_ b13 | refine Ext.trans ?_ b12 | refine Ext.trans ?_ b11 | refine Ext.trans ?_ b10 | refine Ext.trans ?_ b9 | refine Ext.trans ?_ b8 | refine Ext.trans ?_ b7 | refine Ext.trans ?_ b6 | refine Ext.trans ?_ b5 | refine Ext.trans ?_ b4 | refine Ext.trans ?_ b3 | refine Ext.trans ?_ b2 | refine Ext.trans ?_ b1))⟩) (fun hHeld => ?_)
          refine wpAnyH_take (i := 0) (v := ?_) rfl (by kernel_rfl) (by kernel_rfl) (by kernel_rfl) (fun _ _ _ h => h) (Or.inl ⟨by rfl, fun w0 hSw => ?_⟩) hHeld ?_
          rotate_left
          · (try dsimp only at hSw)
            go_simp
            try with_reducible rfl
          simp only [Act.put, List.getElem_toArray, List.getElem_cons_succ, List.getElem_cons_zero, List.setIfInBounds_toArray, List.set_cons_zero, List.set_cons_succ]
          refine wpAnyH_take (i := 2) (v := ?_) rfl (by kernel_rfl) (by kernel_rfl) (by kernel_rfl) (fun _ _ _ h => h) (Or.inl ⟨by rfl, fun w0 hSw => ?_⟩) hHeld ?_
          rotate_left
          · (try dsimp only at hSw)
            go_simp
            try with_reducible rfl
          simp only [Act.put, List.getElem_toArray, List.getElem_cons_succ, List.getElem_cons_zero, List.setIfInBounds_toArray, List.set_cons_zero, List.set_cons_succ]
          refine wpAnyH_ready (rs := [1, 5]) (by kernel_rfl) (by simp) ?_
          refine AllReadyH.cons (o := _) rfl (fun K hK => ?_) (AllReadyH.cons (o := _) rfl (fun K hK => ?_) AllReadyH.nil)
          · skip
            go_simp
            go_at_call 18; refine (rabs_any (RQ11.out.ext (by repeat (first | exact Ext.refl _ | refine Ext.trans ?_ (Ext.alloc _ _) | refine Ext.trans ?_ (drew_ext _) | refine Ext.trans ?_ ba | refine Ext.trans ?_ b40 | refine Ext.trans ?_ b39 | refine Ext.trans ?_ b38 | refine Ext.trans ?_ b37 | refine Ext.trans ?_ b36 | refine Ext.trans ?_ b35 | refine Ext.trans ?_ b34 | refine Ext.trans ?_ b33 | refine Ext.trans ?_ b32 | refine Ext.trans ?_ b31 | refine Ext.trans ?_ b30 | refine Ext.trans ?_ b29 | refine Ext.trans ?_ b28 | refine Ext.trans ?_ b27 | refine Ext.trans ?_ b26 | refine Ext.trans ?_ b25 | refine Ext.trans ?_ b24 | refine Ext.trans ?_ b23 | refine Ext.trans ?_ b22 | refine Ext.trans ?_ b21 | refine Ext.trans ?_ b20 | refine Ext.trans ?_ b19 | refine Ext.trans ?_ b18 | refine Ext.trans ?_ b17 | refine Ext.trans ?_ b16 | refine Ext.trans ?_ b15 | refine Ext.trans ?_ b14 | refine Ext.trans ?_ b13 | refine Ext.trans ?_ b12 | refine Ext.trans ?_ b11 | refine Ext.trans ?_ b10 | refine Ext.trans ?_ b9 | refine Ext.trans ?_ b8 | refine Ext.trans ?_ b7 | refine Ext.trans ?_ b6 | refine Ext.trans ?_ b5 | refine Ext.trans ?_ b4 | refine Ext.trans ?_ b3 | refine Ext.trans ?_ b2 | refine Ext.trans ?_ b1)))).mono ?_; rintro e w13 ⟨v13, rfl, b13, o13⟩; have O13 := Lib.hid o13; clear o13
            go_wp2_with fail
            refine hK.out _ _ (⟨D3.out.ext (by repeat (first | exact Ext.refl _ | refine Ext.trans ?_ (Ext.alloc _ _) | refine Ext.trans ?_ (drew_ext _) | refine Ext.trans ?_ ba | refine Ext.trans ?_ b40 | refine Ext.trans ?_ b39 | refine Ext.trans ?_ b38 | refine Ext.trans ?_ b37 | refine Ext.trans ?_ b36 | refine Ext.trans ?_ b35 | refine Ext.trans ?_ b34 | refine Ext.trans ?_ b33 | refine Ext.trans ?_ b32 | refine Ext.trans ?_ b31 | refine Ext.trans ?_ b30 | refine Ext.trans ?_ b29 | refine Ext.trans ?_ b28 | refine Ext.trans ?_ b27 | refine Ext.trans ?_ b26 | refine Ext.trans ?_ b25 | refine Ext.trans ?_ b24 | refine Ext.trans ?_ b23 | refine Ext.trans ?_ b22 | refine Ext.trans ?_ b21 | refine Ext.trans ?_ b20 | refine Ext.trans ?_ b19 | refine Ext.trans ?_ b18 | refine Ext.trans ?_ b17 | refine Ext.trans ?_ b16 | refine Ext.trans ?_ b15 | refine Ext.trans ?_ b14 | refine Ext.trans ?_ b13 | refine Ext.trans ?_ b12 | refine Ext.trans ?_ b11 | refine Ext.trans ?_ b10 | refine Ext.trans ?_ b9 | refine Ext.trans ?_ b8 | refine Ext.trans ?_ b7 | refine Ext.trans ?_ b6 | refine Ext.trans ?_ b5 | refine Ext.trans ?_ b4 | refine Ext.trans ?_ b3 | refine Ext.trans ?_ b2 | refine Ext.trans ?_ b1)), D5.out.ext (by repeat (first | exact Ext.refl _ | refine Ext.trans ?_ (Ext.alloc _ _) | refine Ext.trans ?_ (drew_ext _) | refine Ext.trans ?_ ba | refine Ext.trans ?_ b40 | refine Ext.trans ?_ b39 | refine Ext.trans ?_ b38 | refine Ext.trans ?_ b37 | refine Ext.trans ?_ b36 | refine Ext.trans ?_ b35 | refine Ext.trans ?_ b34 | refine Ext.trans ?_ b33 | refine Ext.trans ?_ b32 | refine Ext.trans ?_ b31 | refine Ext.trans ?_ b30 | refine Ext.trans ?_ b29 | refine Ext.trans ?_ b28 | refine Ext.trans ?_ b27 | refine Ext.trans ?_ b26 | refine Ext.trans ?_ b25 | refine Ext.trans ?_ b24 | refine Ext.trans ?_ b23 | refine Ext.trans ?_ b22 | refine Ext.trans ?_ b21 | refine Ext.trans ?_ b20 | refine Ext.trans ?_ b19 | refine Ext.trans ?_ b18 | refine Ext.trans ?_ b17 | refine Ext.trans ?_ b16 | refine Ext.trans ?_ b15 | refine Ext.trans ?_ b14 | refine Ext.trans ?_ b13 | refine Ext.trans ?_ b12 | refine Ext.trans ?_ b11 | refine Ext.trans ?_ b10 | refine Ext.trans ?_ b9 | refine Ext.trans ?_ b8 | refine Ext.trans ?_ b7 | refine Ext.trans ?_ b6 | refine Ext.trans ?_ b5 | refine Ext.trans ?_ b4 | refine Ext.trans ?_ b3 | refine Ext.trans ?_ b2 | refine Ext.trans ?_ b1))⟩) (fun hHeld => ?_)
            clear hK K
            try simp only [Act.put, List.getElem_toArray, List.getElem_cons_succ, List.getElem_cons_zero, List.setIfInBounds_toArray, List.set_cons_zero, List.set_cons_succ]
            refine wpAnyH_ready (rs := [3, 5]) (by kernel_rfl) (by simp) ?_
            refine AllReadyH.cons (o := _) rfl (fun K hK => ?_) (AllReadyH.cons (o := _) rfl (fun K hK => ?_) AllReadyH.nil)
            · skip
              go_simp
              go_at_call 18; refine (rabs_any (RD11.out.ext (by repeat (first | exact Ext.refl _ | refine Ext.trans ?_ (Ext.alloc _ _) | refine Ext.trans ?_ (drew_ext _) | refine Ext.trans ?_ ba | refine Ext.trans ?_ b40 | refine Ext.trans ?_ b39 | refine Ext.trans ?_ b38 | refine Ext.trans ?_ b37 | refine Ext.trans ?_ b36 | refine Ext.trans ?_ b35 | refine Ext.trans ?_ b34 | refine Ext.trans ?_ b33 | refine Ext.trans ?_ b32 | refine Ext.trans ?_ b31 | refine Ext.trans ?_ b30 | refine Ext.trans ?_ b29 | refine Ext.trans ?_ b28 | refine Ext.trans ?_ b27 | refine Ext.trans ?_ b26 | refine Ext.trans ?_ b25 | refine Ext.trans ?_ b24 | refine Ext.trans ?_ b23 | refine Ext.trans ?_ b22 | refine Ext.trans ?_ b21 | refine Ext.trans ?_ b20 | refine Ext.trans ?_ b19 | refine Ext.trans ?_ b18 | refine Ext.trans ?_ b17 | refine Ext.trans ?_ b16 | refine Ext.trans ?_ b15 | refine Ext.trans ?_ b14 | refine Ext.trans ?_ b13 | refine Ext.trans ?_ b12 | refine Ext.trans ?_ b11 | refine Ext.trans ?_ b10 | refine Ext.trans ?_ b9 | refine Ext.trans ?_ b8 | refine Ext.trans ?_ b7 | refine Ext.trans ?_ b6 | refine Ext.trans ?_ b5 | refine Ext.trans ?_ b4 | refine Ext.trans ?_ b3 | refine Ext.trans ?_ b2 | refine Ext.trans ?_ b1)))).mono ?_; rintro e w14 ⟨v14, rfl, b14, o14⟩; have O14 := Lib.hid o14; clear o14
              go_wp2_with fail
              refine hK.out _ _ (⟨D3.out.ext (by repeat (first | exact Ext.refl _ | refine Ext.trans ?_ (Ext.alloc _ _) | refine Ext.trans ?_ (drew_ext _) | refine Ext.trans ?_ ba | refine Ext.trans ?_ b40 | refine Ext.trans ?_ b39 | refine Ext.trans ?_ b38 | refine Ext.trans ?_ b37 | refine Ext.trans ?_ b36 | refine Ext.trans ?_ b35 | refine Ext.trans ?_ b34 | refine Ext.trans ?_ b33 | refine Ext.trans ?_ b32 | refine Ext.trans ?_ b31 | refine Ext.trans ?_ b30 | refine Ext.trans ?_ b29 | refine Ext.trans ?_ b28 | refine Ext.trans ?_ b27 | refine Ext.trans ?_ b26 | refine Ext.trans ?_ b25 | refine Ext.trans ?_ b24 | refine Ext.trans ?_ b23 | refine Ext.trans ?_ b22 | refine Ext.trans ?_ b21 | refine Ext.trans ?_ b20 | refine Ext.trans ?_ b19 | refine Ext.trans ?_ b18 | refine Ext.trans ?_ b17 | refine Ext.trans ?_ b16 | refine Ext.trans ?_ b15 | refine Ext.trans ?_ b14 | refine Ext.trans ?_ b13 | refine Ext.trans ?_ b12 | refine Ext.trans ?_ b11 | refine Ext.trans ?_ b10 | refine Ext.trans ?_ b9 | refine Ext.trans ?_ b8 | refine Ext.trans ?_ b7 | refine Ext.trans ?_ b6 | refine Ext.trans ?_ b5 | refine Ext.trans ?_ b4 | refine Ext.trans ?_ b3 | refine Ext.trans ?_ b2 | refine Ext.trans ?_ b1)), D5.out.ext (by repeat (first | exact Ext.refl _ | refine Ext.trans ?_ (Ext.alloc _ _) | refine Ext.trans ?_ (drew_ext _) | refine Ext.trans ?_ ba | refine Ext.trans ?_ b40 | refine Ext.trans ?_ b39 | refine Ext.trans ?_ b38 | refine Ext.trans ?_ b37 | refine Ext.trans ?_ b36 | refine Ext.trans ?_ b35 | refine Ext.trans ?_ b34 | refine Ext.trans ?_ b33 | refine Ext.trans ?_ b32 | refine Ext.trans ?_ b31 | refine Ext.trans ?_ b30 | refine Ext.trans ?_ b29 | refine Ext.trans ?_ b28 | refine Ext.trans ?_ b27 | refine Ext.trans ?_ b26 | refine Ext.trans ?_ b25 | refine Ext.trans ?_ b24 | refine Ext.trans ?_ b23 | refine Ext.trans ?_ b22 | refine Ext.trans ?_ b21 | refine Ext.trans ?_ b20 | refine Ext.trans ?_ b19 | refine Ext.trans ?_ b18 | refine Ext.trans ?_ b17 | refine Ext.trans ?_ b16 | refine Ext.trans ?_ b15 | refine Ext.trans ?_ b14 | refine Ext.trans ?_ b13 | refine Ext.trans ?_ b12 | refine Ext.trans ?_ b11 | refine Ext.trans ?_ b10 | refine Ext.trans ?_ b9 | refine Ext.trans ?_ b8 | refine Ext.trans ?_ b7 | refine Ext.trans ?_ b6 | refine Ext.trans ?_ b5 | refine Ext.trans ?_ b4 | refine Ext.trans ?_ b3 | refine Ext.trans ?_ b2 | refine Ext.trans ?_ b1))⟩) (fun hHeld => ?_)
              clear hK K
              try simp only [Act.put, List.getElem_toArray, List.getElem_cons_succ, List.getElem_cons_zero, List.setIfInBounds_toArray, List.set_cons_zero, List.set_cons_succ]
              refine wpAnyH_ready (rs := [4, 5]) (by kernel_rfl) (by simp) ?_
              refine AllReadyH.cons (o := _) rfl (fun K hK => ?_) (AllReadyH.cons (o := _) rfl (fun K hK => ?_) AllReadyH.nil)
              · skip
                go_simp
                go_at_call 17; refine (HSUB.out _ _ _ (O13.out.ext (by repeat (first | exact Ext.refl _ | refine Ext.trans ?_ (Ext.alloc _ _) | refine Ext.trans ?_ (drew_ext _) | refine Ext.trans ?_ ba | refine Ext.trans ?_ b40 | refine Ext.trans ?_ b39 | refine Ext.trans ?_ b38 | refine Ext.trans ?_ b37 | refine Ext.trans ?_ b36 | refine Ext.trans ?_ b35 | refine Ext.trans ?_ b34 | refine Ext.trans ?_ b33 | refine Ext.trans ?_ b32 | refine Ext.trans ?_ b31 | refine Ext.trans ?_ b30 | refine Ext.trans ?_ b29 | refine Ext.trans ?_ b28 | refine Ext.trans ?_ b27 | refine Ext.trans ?_ b26 | refine Ext.trans ?_ b25 | refine Ext.trans ?_ b24 | refine Ext.trans ?_ b23 | refine Ext.trans ?_ b22 | refine Ext.trans ?_ b21 | refine Ext.trans ?_ b20 | refine Ext.trans ?_ b19 | refine Ext.trans ?_ b18 | refine Ext.trans ?_ b17 | refine Ext.trans ?_ b16 | refine Ext.trans ?_ b15 | refine Ext.trans ?_ b14 | refine Ext.trans ?_ b13 | refine Ext.trans ?_ b12 | refine Ext.trans ?_ b11 | refine Ext.trans ?_ b10 | refine Ext.trans ?_ b9 | refine Ext.trans ?_ b8 | refine Ext.trans ?_ b7 | refine Ext.trans ?_ b6 | refine Ext.trans ?_ b5 | refine Ext.trans ?_ b4 | refine Ext.trans ?_ b3 | refine Ext.trans ?_ b2 | refine Ext.trans ?_ b1))) (O14.out.ext (by repeat (first | exact Ext.refl _ | refine Ext.trans ?_ (Ext.alloc _ _) | refine Ext.trans ?_ (drew_ext _) | refine Ext.trans ?_ ba | refine Ext.trans ?_ b40 | refine Ext.trans ?_ b39 | refine Ext.trans ?_ b38 | refine Ext.trans ?_ b37 | refine Ext.trans ?_ b36 | refine Ext.trans ?_ b35 | refine Ext.trans ?_ b34 | refine Ext.trans ?_ b33 | refine Ext.trans ?_ b32 | refine Ext.trans ?_ b31 | refine Ext.trans ?_ b30 | refine Ext.trans ?_ b29 | refine Ext.trans ?_ b28 | refine Ext.trans ?_ b27 | refine Ext.trans ?_ b26 | refine Ext.trans ?_ b25 | refine Ext.trans ?_ b24 | refine Ext.trans ?_ b23 | refine Ext.trans ?_ b22 | refine Ext.trans ?_ b21 | refine Ext.trans ?_ b20 | refine Ext.trans ?_ b19 | refine Ext.trans ?_ b18 | refine Ext.trans ?_ b17 | refine Ext.trans ?_ b16 | refine Ext.trans ?_ b15 | refine Ext.trans ?_ b14 | refine Ext.trans ?_ b13 | refine Ext.trans ?_ b12 | refine Ext.trans ?_ b11 | refine Ext.trans ?_ b10 | refine Ext.trans ?_ b9 | refine Ext.trans ?_ b8 | refine Ext.trans ?_ b7 | refine Ext.trans ?_ b6 | refine Ext.trans ?_ b5 | refine Ext.trans ?_ b4 | refine Ext.trans ?_ b3 | refine Ext.trans ?_ b2 | refine Ext.trans ?_ b1)))).mono ?_; rintro e w15 ⟨_, rfl, b15, n15, d15, rfl, on15, od15⟩; have ON15 := Lib.hid on15; have OD15 := Lib.hid od15; clear on15 od15; obtain ⟨an15, cn15, rfl, -, -, -, -⟩ := ON15.out.rd.1.shape; obtain ⟨ad15, cd15, rfl, -, -, -, -⟩ := OD15.out.rd.1.shape
                go_wp2_with fail
                refine hK.out _ _ (⟨D3.out.ext (by repeat (first | exact Ext.refl _ | refine Ext.trans ?_ (Ext.alloc _ _) | refine Ext.trans ?_ (drew_ext _) | refine Ext.trans ?_ ba | refine Ext.trans ?_ b40 | refine Ext.trans ?_ b39 | refine Ext.trans ?_ b38 | refine Ext.trans ?_ b37 | refine Ext.trans ?_ b36 | refine Ext.trans ?_ b35 | refine Ext.trans ?_ b34 | refine Ext.trans ?_ b33 | refine Ext.trans ?_ b32 | refine Ext.trans ?_ b31 | refine Ext.trans ?_ b30 | refine Ext.trans ?_ b29 | refine Ext.trans ?_ b28 | refine Ext.trans ?_ b27 | refine Ext.trans ?_ b26 | refine Ext.trans ?_ b25 | refine Ext.trans ?_ b24 | refine Ext.trans ?_ b23 | refine Ext.trans ?_ b22 | refine Ext.trans ?_ b21 | refine Ext.trans ?_ b20 | refine Ext.trans ?_ b19 | refine Ext.trans ?_ b18 | refine Ext.trans ?_ b17 | refine Ext.trans ?_ b16 | refine Ext.trans ?_ b15 | refine Ext.trans ?_ b14 | refine Ext.trans ?_ b13 | refine Ext.trans ?_ b12 | refine Ext.trans ?_ b11 | refine Ext.trans ?_ b10 | refine Ext.trans ?_ b9 | refine Ext.trans ?_ b8 | refine Ext.trans ?_ b7 | refine Ext.trans ?_ b6 | refine Ext.trans ?_ b5 | refine Ext.trans ?_ b4 | refine Ext.trans ?_ b3 | refine Ext.trans ?_ b2 | refine Ext.trans ?_ b1)), D5.out.ext (by repeat (first | exact Ext.refl _ | refine Ext.trans ?_ (Ext.alloc _ _) | refine Ext.trans ?_ (drew_ext _) | refine Ext.trans ?_ ba | refine Ext.trans ?_ b40 | refine Ext.trans ?_ b39 | refine Ext.trans ?_ b38 | refine Ext.trans ?_ b37 | refine Ext.trans ?_ b36 | refine Ext.trans ?_ b35 | refine Ext.trans ?_ b34 | refine Ext.trans ?_ b33 | refine Ext.trans ?_ b32 | refine Ext.trans ?_ b31 | refine Ext.trans ?_ b30 | refine Ext.trans ?_ b29 | refine Ext.trans ?_ b28 | refine Ext.trans ?_ b27 | refine Ext.trans ?_ b26 | refine Ext.trans ?_ b25 | refine Ext.trans ?_ b24 | refine Ext.trans ?_ b23 | refine Ext.trans ?_ b22 | refine Ext.trans ?_ b21 | refine Ext.trans ?_ b20 | refine Ext.trans ?_ b19 | refine Ext.trans ?_ b18 | refine Ext.trans ?_ b17 | refine Ext.trans ?_ b16 | refine Ext.trans ?_ b15 | refine Ext.trans ?_ b14 | refine Ext.trans ?_ b13 | refine Ext.trans ?_ b12 | refine Ext.trans ?_ b11 | refine Ext.trans ?_ b10 | refine Ext.trans ?_ b9 | refine Ext.trans ?_ b8 | refine Ext.trans ?_ b7 | refine Ext.trans ?_ b6 | refine Ext.trans ?_ b5 | refine Ext.trans ?_ b4 | refine Ext.trans ?_ b3 | refine Ext.trans ?_ b2 | refine Ext.trans ?_ b1))⟩) (fun hHeld => ?_)
                clear hK K
                try simp only [Act.put, List.getElem_toArray, List.getElem_cons_succ, List.getElem_cons_zero, List.setIfInBounds_toArray, List.set_cons_zero, List.set_cons_succ]
                refine wpAnyH_ready (rs := [5]) (by kernel_rfl) (by simp) ?_
                refine AllReadyH.cons (o := _) rfl (fun K hK => ?_) AllReadyH.nil
                go_simp
                refine hK.out _ _ (⟨D3.out.ext (by repeat (first | exact Ext.refl _ | refine Ext.trans ?_ (Ext.alloc _ _) | refine Ext.trans ?_ (drew_ext _) | refine Ext.trans ?_ ba | refine Ext.trans ?_ b40 | refine Ext.trans ?_ b39 | refine Ext.trans ?_ b38 | refine Ext.trans ?_ b37 | refine Ext.trans ?_ b36 | refine Ext.trans ?_ b35 | refine Ext.trans ?_ b34 | refine Ext.trans ?_ b33 | refine Ext.trans ?_ b32 | refine Ext.trans ?_ b31 | refine Ext.trans ?_ b30 | refine Ext.trans ?_ b29 | refine Ext.trans ?_ b28 | refine Ext.trans ?_ b27 | refine Ext.trans ?_ b26 | refine Ext.trans ?_ b25 | refine Ext.trans ?_ b24 | refine Ext.trans ?_ b23 | refine Ext.trans ?_ b22 | refine Ext.trans ?_ b21 | refine Ext.trans ?_ b20 | refine Ext.trans ?_ b19 | refine Ext.trans ?_ b18 | refine Ext.trans ?_ b17 | refine Ext.trans ?_ b16 | refine Ext.trans ?_ b15 | refine Ext.trans ?_ b14 | refine Ext.trans ?_ b13 | refine Ext.trans ?_ b12 | refine Ext.trans ?_ b11 | refine Ext.trans ?_ b10 | refine Ext.trans ?_ b9 | refine Ext.trans ?_ b8 | refine Ext.trans ?_ b7 | refine Ext.trans ?_ b6 | refine Ext.trans ?_ b5 | refine Ext.trans ?_ b4 | refine Ext.trans ?_ b3 | refine Ext.trans ?_ b2 | refine Ext.trans ?_ b1)), D5.out.ext (by repeat (first | exact Ext.refl _ | refine Ext.trans ?_ (Ext.alloc _ _) | refine Ext.trans ?_ (drew_ext _) | refine Ext.trans ?_ ba | refine Ext.trans ?_ b40 | refine Ext.trans ?_ b39 | refine Ext.trans ?_ b38 | refine Ext.trans ?_ b37 | refine Ext.trans ?_ b36 | refine Ext.trans ?_ b35 | refine Ext.trans ?_ b34 | refine Ext.trans ?_ b33 | refine Ext.trans ?_ b32 | refine Ext.trans ?_ b31 | refine Ext.trans ?_ b30 | refine Ext.trans ?_ b29 | refine Ext.trans ?_ b28 | refine Ext.trans ?_ b27 | refine Ext.trans ?_ b26 | refine Ext.trans ?_ b25 | refine Ext.trans ?_ b24 | refine Ext.trans ?_ b23 | refine Ext.trans ?_ b22 | refine Ext.trans ?_ b21 | refine Ext.trans ?_ b20 | refine Ext.trans ?_ b19 | refine Ext.trans ?_ b18 | refine Ext.trans ?_ b17 | refine Ext.trans ?_ b16 | refine Ext.trans ?_ b15 | refine Ext.trans ?_ b14 | refine Ext.trans ?_ b13 | refine Ext.trans ?_ b12 | refine Ext.trans ?_ b11 | refine Ext.trans ?_ b10 | refine Ext.trans ?_ b9 | refine Ext.trans ?_ b8 | refine Ext.trans ?_ b7 | refine Ext.trans ?_ b6 | refine Ext.trans ?_ b5 | refine Ext.trans ?_ b4 | refine Ext.trans ?_ b3 | refine Ext.trans ?_ b2 | refine Ext.trans ?_ b1))⟩) (fun hHeld => ?_)
                clear hK K
                try simp only [Act.put, List.getElem_toArray, List.getElem_cons_succ, List.getElem_cons_zero, List.setIfInBounds_toArray, List.set_cons_zero, List.set_cons_succ]
                obtain ⟨wa, hwa, ba, ra, za⟩ := boxR w15 (.bool false) (.slice none 0 0) (.slice none 0 0) 26
                rw [← hwa] at hHeld ⊢
                have RA : Hid (Room3 wa w15.heap.size) := ra
                have hsz : Hid (w11.heap.size ≤ w15.heap.size) := Below.size (by repeat (first | exact Ext.refl _ | refine Ext.trans ?_ (Ext.alloc _ _) | refine Ext.trans ?_ (drew_ext _) | refine Ext.trans ?_ ba | refine Ext.trans ?_ b40 | refine Ext.trans ?_ b39 | refine Ext.trans ?_ b38 | refine Ext.trans ?_ b37 | refine Ext.trans ?_ b36 | refine Ext.trans ?_ b35 | refine Ext.trans ?_ b34 | refine Ext.trans ?_ b33 | refine Ext.trans ?_ b32 | refine Ext.trans ?_ b31 | refine Ext.trans ?_ b30 | refine Ext.trans ?_ b29 | refine Ext.trans ?_ b28 | refine Ext.trans ?_ b27 | refine Ext.trans ?_ b26 | refine Ext.trans ?_ b25 | refine Ext.trans ?_ b24 | refine Ext.trans ?_ b23 | refine Ext.trans ?_ b22 | refine Ext.trans ?_ b21 | refine Ext.trans ?_ b20 | refine Ext.trans ?_ b19 | refine Ext.trans ?_ b18 | refine Ext.trans ?_ b17 | refine Ext.trans ?_ b16 | refine Ext.trans ?_ b15 | refine Ext.trans ?_ b14 | refine Ext.trans ?_ b13 | refine Ext.trans ?_ b12 | refine Ext.trans ?_ b11 | refine Ext.trans ?_ b10 | refine Ext.trans ?_ b9 | refine Ext.trans ?_ b8 | refine Ext.trans ?_ b7 | refine Ext.trans ?_ b6 | refine Ext.trans ?_ b5 | refine Ext.trans ?_ b4 | refine Ext.trans ?_ b3 | refine Ext.trans ?_ b2 | refine Ext.trans ?_ b1))
                have za : wa.heap.size = w15.heap.size + 1 := za
                clear hwa ra
                obtain ⟨_, _, _, j0, j1, j2, g0, g1, g2⟩ := (RA.out.ext (show Ext wa wa from (by repeat (first | exact Ext.refl _ | refine Ext.trans ?_ (Ext.alloc _ _) | refine Ext.trans ?_ (drew_ext _) | refine Ext.trans ?_ ba | refine Ext.trans ?_ b40 | refine Ext.trans ?_ b39 | refine Ext.trans ?_ b38 | refine Ext.trans ?_ b37 | refine Ext.trans ?_ b36 | refine Ext.trans ?_ b35 | refine Ext.trans ?_ b34 | refine Ext.trans ?_ b33 | refine Ext.trans ?_ b32 | refine Ext.trans ?_ b31 | refine Ext.trans ?_ b30 | refine Ext.trans ?_ b29 | refine Ext.trans ?_ b28 | refine Ext.trans ?_ b27 | refine Ext.trans ?_ b26 | refine Ext.trans ?_ b25 | refine Ext.trans ?_ b24 | refine Ext.trans ?_ b23 | refine Ext.trans ?_ b22 | refine Ext.trans ?_ b21 | refine Ext.trans ?_ b20 | refine Ext.trans ?_ b19 | refine Ext.trans ?_ b18 | refine Ext.trans ?_ b17 | refine Ext.trans ?_ b16 | refine Ext.trans ?_ b15 | refine Ext.trans ?_ b14 | refine Ext.trans ?_ b13 | refine Ext.trans ?_ b12 | refine Ext.trans ?_ b11 | refine Ext.trans ?_ b10 | refine Ext.trans ?_ b9 | refine Ext.trans ?_ b8 | refine Ext.trans ?_ b7 | refine Ext.trans ?_ b6 | refine Ext.trans ?_ b5 | refine Ext.trans ?_ b4 | refine Ext.trans ?_ b3 | refine Ext.trans ?_ b2 | refine Ext.trans ?_ b1)))).cells
                refine wpAnyH_ready (rs := [6]) (by kernel_rfl) (by simp) ?_
                refine AllReadyH.cons (o := _) rfl (fun K hK => ?_) AllReadyH.nil
                go_simp
                refine hK.out _ _ (⟨(D3.out.ext (show Ext w11 wa from (by repeat (first | exact Ext.refl _ | refine Ext.trans ?_ (Ext.alloc _ _) | refine Ext.trans ?_ (drew_ext _) | refine Ext.trans ?_ ba | refine Ext.trans ?_ b40 | refine Ext.trans ?_ b39 | refine Ext.trans ?_ b38 | refine Ext.trans ?_ b37 | refine Ext.trans ?_ b36 | refine Ext.trans ?_ b35 | refine Ext.trans ?_ b34 | refine Ext.trans ?_ b33 | refine Ext.trans ?_ b32 | refine Ext.trans ?_ b31 | refine Ext.trans ?_ b30 | refine Ext.trans ?_ b29 | refine Ext.trans ?_ b28 | refine Ext.trans ?_ b27 | refine Ext.trans ?_ b26 | refine Ext.trans ?_ b25 | refine Ext.trans ?_ b24 | refine Ext.trans ?_ b23 | refine Ext.trans ?_ b22 | refine Ext.trans ?_ b21 | refine Ext.trans ?_ b20 | refine Ext.trans ?_ b19 | refine Ext.trans ?_ b18 | refine Ext.trans ?_ b17 | refine Ext.trans ?_ b16 | refine Ext.trans ?_ b15 | refine Ext.trans ?_ b14 | refine Ext.trans ?_ b13 | refine Ext.trans ?_ b12 | refine Ext.trans ?_ b11 | refine Ext.trans ?_ b10 | refine Ext.trans ?_ b9 | refine Ext.trans ?_ b8 | refine Ext.trans ?_ b7 | refine Ext.trans ?_ b6 | refine Ext.trans ?_ b5 | refine Ext.trans ?_ b4 | refine Ext.trans ?_ b3 | refine Ext.trans ?_ b2 | refine Ext.trans ?_ b1)))).put (c := w15.heap.size) (by have := hsz.out; have := hsq.out; omega) _ _ _, (D5.out.ext (show Ext w11 wa from (by repeat (first | exact Ext.refl _ | refine Ext.trans ?_ (Ext.alloc _ _) | refine Ext.trans ?_ (drew_ext _) | refine Ext.trans ?_ ba | refine Ext.trans ?_ b40 | refine Ext.trans ?_ b39 | refine Ext.trans ?_ b38 | refine Ext.trans ?_ b37 | refine Ext.trans ?_ b36 | refine Ext.trans ?_ b35 | refine Ext.trans ?_ b34 | refine Ext.trans ?_ b33 | refine Ext.trans ?_ b32 | refine Ext.trans ?_ b31 | refine Ext.trans ?_ b30 | refine Ext.trans ?_ b29 | refine Ext.trans ?_ b28 | refine Ext.trans ?_ b27 | refine Ext.trans ?_ b26 | refine Ext.trans ?_ b25 | refine Ext.trans ?_ b24 | refine Ext.trans ?_ b23 | refine Ext.trans ?_ b22 | refine Ext.trans ?_ b21 | refine Ext.trans ?_ b20 | refine Ext.trans ?_ b19 | refine Ext.trans ?_ b18 | refine Ext.trans ?_ b17 | refine Ext.trans ?_ b16 | refine Ext.trans ?_ b15 | refine Ext.trans ?_ b14 | refine Ext.trans ?_ b13 | refine Ext.trans ?_ b12 | refine Ext.trans ?_ b11 | refine Ext.trans ?_ b10 | refine Ext.trans ?_ b9 | refine Ext.trans ?_ b8 | refine Ext.trans ?_ b7 | refine Ext.trans ?_ b6 | refine Ext.trans ?_ b5 | refine Ext.trans ?_ b4 | refine Ext.trans ?_ b3 | refine Ext.trans ?_ b2 | refine Ext.trans ?_ b1)))).put (c := w15.heap.size) (by have := hsz.out; have := hsq.out; omega) _ _ _⟩) (fun hHeld => ?_)
                clear hK K
                try simp only [Act.put, List.getElem_toArray, List.getElem_cons_succ, List.getElem_cons_zero, List.setIfInBounds_toArray, List.set_cons_zero, List.set_cons_succ]
                refine wpAnyH_done (by kernel_rfl) ?_ _
                refine NoPanic.normal ?_
                have hd11 : w11.drew.heap.size = w11.heap.size := rfl
                have h13 := b13.size
                have h14 := b14.size
                have h15 := b15.size
                have ha := ba.size
                have hda : wa.drew.heap.size = wa.heap.size := rfl
                go_wp2_with fail
                go_meet
                exact ⟨put3_below (by repeat (first | exact Ext.refl _ | refine Ext.trans ?_ (Ext.alloc _ _) | refine Ext.trans ?_ (drew_ext _) | refine Ext.trans ?_ ba | refine Ext.trans ?_ b40 | refine Ext.trans ?_ b39 | refine Ext.trans ?_ b38 | refine Ext.trans ?_ b37 | refine Ext.trans ?_ b36 | refine Ext.trans ?_ b35 | refine Ext.trans ?_ b34 | refine Ext.trans ?_ b33 | refine Ext.trans ?_ b32 | refine Ext.trans ?_ b31 | refine Ext.trans ?_ b30 | refine Ext.trans ?_ b29 | refine Ext.trans ?_ b28 | refine Ext.trans ?_ b27 | refine Ext.trans ?_ b26 | refine Ext.trans ?_ b25 | refine Ext.trans ?_ b24 | refine Ext.trans ?_ b23 | refine Ext.trans ?_ b22 | refine Ext.trans ?_ b21 | refine Ext.trans ?_ b20 | refine Ext.trans ?_ b19 | refine Ext.trans ?_ b18 | refine Ext.trans ?_ b17 | refine Ext.trans ?_ b16 | refine Ext.trans ?_ b15 | refine Ext.trans ?_ b14 | refine Ext.trans ?_ b13 | refine Ext.trans ?_ b12 | refine Ext.trans ?_ b11 | refine Ext.trans ?_ b10 | refine Ext.trans ?_ b9 | refine Ext.trans ?_ b8 | refine Ext.trans ?_ b7 | refine Ext.trans ?_ b6 | refine Ext.trans ?_ b5 | refine Ext.trans ?_ b4 | refine Ext.trans ?_ b3 | refine Ext.trans ?_ b2 | refine Ext.trans ?_ b1)) hsz.out _ _ _, _, _, _, _, _, _, _, _, rfl, Box3.put_at (RA.out.ext (by repeat (first | exact Ext.refl _ | refine Ext.trans ?_ (Ext.alloc _ _) | refine Ext.trans ?_ (drew_ext _) | refine Ext.trans ?_ ba | refine Ext.trans ?_ b40 | refine Ext.trans ?_ b39 | refine Ext.trans ?_ b38 | refine Ext.trans ?_ b37 | refine Ext.trans ?_ b36 | refine Ext.trans ?_ b35 | refine Ext.trans ?_ b34 | refine Ext.trans ?_ b33 | refine Ext.trans ?_ b32 | refine Ext.trans ?_ b31 | refine Ext.trans ?_ b30 | refine Ext.trans ?_ b29 | refine Ext.trans ?_ b28 | refine Ext.trans ?_ b27 | refine Ext.trans ?_ b26 | refine Ext.trans ?_ b25 | refine Ext.trans ?_ b24 | refine Ext.trans ?_ b23 | refine Ext.trans ?_ b22 | refine Ext.trans ?_ b21 | refine Ext.trans ?_ b20 | refine Ext.trans ?_ b19 | refine Ext.trans ?_ b18 | refine Ext.trans ?_ b17 | refine Ext.trans ?_ b16 | refine Ext.trans ?_ b15 | refine Ext.trans ?_ b14 | refine Ext.trans ?_ b13 | refine Ext.trans ?_ b12 | refine Ext.trans ?_ b11 | refine Ext.trans ?_ b10 | refine Ext.trans ?_ b9 | refine Ext.trans ?_ b8 | refine Ext.trans ?_ b7 | refine Ext.trans ?_ b6 | refine Ext.trans ?_ b5 | refine Ext.trans ?_ b4 | refine Ext.trans ?_ b3 | refine Ext.trans ?_ b2 | refine Ext.trans ?_ b1))) _ _ _, _, _, rfl, (ON15.out.put_new (by repeat (first | exact Ext.refl _ | refine Ext.trans ?_ (Ext.alloc _ _) | refine Ext.trans ?_ (drew_ext _) | refine Ext.trans ?_ ba | refine Ext.trans ?_ b40 | refine Ext.trans ?_ b39 | refine Ext.trans ?_ b38 | refine Ext.trans ?_ b37 | refine Ext.trans ?_ b36 | refine Ext.trans ?_ b35 | refine Ext.trans ?_ b34 | refine Ext.trans ?_ b33 | refine Ext.trans ?_ b32 | refine Ext.trans ?_ b31 | refine Ext.trans ?_ b30 | refine Ext.trans ?_ b29 | refine Ext.trans ?_ b28 | refine Ext.trans ?_ b27 | refine Ext.trans ?_ b26 | refine Ext.trans ?_ b25 | refine Ext.trans ?_ b24 | refine Ext.trans ?_ b23 | refine Ext.trans ?_ b22 | refine Ext.trans ?_ b21 | refine Ext.trans ?_ b20 | refine Ext.trans ?_ b19 | refine Ext.trans ?_ b18 | refine Ext.trans ?_ b17 | refine Ext.trans ?_ b16 | refine Ext.trans ?_ b15 | refine Ext.trans ?_ b14 | refine Ext.trans ?_ b13 | refine Ext.trans ?_ b12 | refine Ext.trans ?_ b11 | refine Ext.trans ?_ b10 | refine Ext.trans ?_ b9 | refine Ext.trans ?_ b8 | refine Ext.trans ?_ b7 | refine Ext.trans ?_ b6 | refine Ext.trans ?_ b5 | refine Ext.trans ?_ b4 | refine Ext.trans ?_ b3 | refine Ext.trans ?_ b2 | refine Ext.trans ?_ b1)) (by omega) _ _ _).rd, (OD15.out.put_new (by repeat (first | exact Ext.refl _ | refine Ext.trans ?_ (Ext.alloc _ _) | refine Ext.trans ?_ (drew_ext _) | refine Ext.trans ?_ ba | refine Ext.trans ?_ b40 | refine Ext.trans ?_ b39 | refine Ext.trans ?_ b38 | refine Ext.trans ?_ b37 | refine Ext.trans ?_ b36 | refine Ext.trans ?_ b35 | refine Ext.trans ?_ b34 | refine Ext.trans ?_ b33 | refine Ext.trans ?_ b32 | refine Ext.trans ?_ b31 | refine Ext.trans ?_ b30 | refine Ext.trans ?_ b29 | refine Ext.trans ?_ b28 | refine Ext.trans ?_ b27 | refine Ext.trans ?_ b26 | refine Ext.trans ?_ b25 | refine Ext.trans ?_ b24 | refine Ext.trans ?_ b23 | refine Ext.trans ?_ b22 | refine Ext.trans ?_ b21 | refine Ext.trans ?_ b20 | refine Ext.trans ?_ b19 | refine Ext.trans ?_ b18 | refine Ext.trans ?_ b17 | refine Ext.trans ?_ b16 | refine Ext.trans ?_ b15 | refine Ext.trans ?_ b14 | refine Ext.trans ?_ b13 | refine Ext.trans ?_ b12 | refine Ext.trans ?_ b11 | refine Ext.trans ?_ b10 | refine Ext.trans ?_ b9 | refine Ext.trans ?_ b8 | refine Ext.trans ?_ b7 | refine Ext.trans ?_ b6 | refine Ext.trans ?_ b5 | refine Ext.trans ?_ b4 | refine Ext.trans ?_ b3 | refine Ext.trans ?_ b2 | refine Ext.trans ?_ b1)) (by omega) _ _ _).rd⟩
              · skip
                go_simp
                refine hK.out _ _ (⟨D3.out.ext (by repeat (first | exact Ext.refl _ | refine Ext.trans ?_ (Ext.alloc _ _) | refine Ext.trans ?_ (drew_ext _) | refine Ext.trans ?_ ba | refine Ext.trans ?_ b40 | refine Ext.trans ?_ b39 | refine Ext.trans ?_ b38 | refine Ext.trans ?_ b37 | refine Ext.trans ?_ b36 | refine Ext.trans ?_ b35 | refine Ext.trans ?_ b34 | refine Ext.trans ?_ b33 | refine Ext.trans ?_ b32 | refine Ext.trans ?_ b31 | refine Ext.trans ?_ b30 | refine Ext.trans ?_ b29 | refine Ext.trans ?_ b28 | refine Ext.trans ?_ b27 | refine Ext.trans ?_ b26 | refine Ext.trans ?_ b25 | refine Ext.trans ?_ b24 | refine Ext.trans ?_ b23 | refine Ext.trans ?_ b22 | refine Ext.trans ?_ b21 | refine Ext.trans ?_ b20 | refine Ext.trans ?_ b19 | refine Ext.trans ?_ b18 | refine Ext.trans ?_ b17 | refine Ext.trans ?_ b16 | refine Ext.trans ?_ b15 | refine Ext.trans ?_ b14 | refine Ext.trans ?_ b13 | refine Ext.trans ?_ b12 | refine Ext.trans ?_ b11 | refine Ext.trans ?_ b10 | refine Ext.trans ?_ b9 | refine Ext.trans ?_ b8 | refine Ext.trans ?_ b7 | refine Ext.trans ?_ b6 | refine Ext.trans ?_ b5 | refine Ext.trans ?_ b4 | refine Ext.trans ?_ b3 | refine Ext.trans ?_ b2 | refine Ext.trans ?_ b1)), D5.out.ext (by repeat (first | exact Ext.refl _ | refine Ext.trans ?_ (Ext.alloc _ _) | refine Ext.trans ?_ (drew_ext _) | refine Ext.trans ?_ ba | refine Ext.trans ?_ b40 | refine Ext.trans ?_ b39 | refine Ext.trans ?_ b38 | refine Ext.trans ?_ b37 | refine Ext.trans ?_ b36 | refine Ext.trans ?_ b35 | refine Ext.trans ?_ b34 | refine Ext.trans ?_ b33 | refine Ext.trans ?_ b32 | refine Ext.trans ?_ b31 | refine Ext.trans ?_ b30 | refine Ext.trans ?_ b29 | refine Ext.trans ?_ b28 | refine Ext.trans ?_ b27 | refine Ext.trans ?_ b26 | refine Ext.trans ?_ b25 | refine Ext.trans ?_ b24 | refine Ext.trans ?_ b23 | refine Ext.trans ?_ b22 | refine Ext.trans ?_ b21 | refine Ext.trans ?_ b20 | refine Ext.trans ?_ b19 | refine Ext.trans ?_ b18 | refine Ext.trans ?_ b17 | refine Ext.trans ?_ b16 | refine Ext.trans ?_ b15 | refine Ext.trans ?_ b14 | refine Ext.trans ?_ b13 | refine Ext.trans ?_ b12 | refine Ext.trans ?_ b11 | refine Ext.trans ?_ b10 | refine Ext.trans ?_ b9 | refine Ext.trans ?_ b8 | refine Ext.trans ?_ b7 | refine Ext.trans ?_ b6 | refine Ext.trans ?_ b5 | refine Ext.trans ?_ b4 | refine Ext.trans ?_ b3 | refine Ext.trans ?_ b2 | refine Ext.trans ?_ b1))⟩) (fun hHeld => ?_)
                clear hK K
                try simp only [Act.put, List.getElem_toArray, List.getElem_cons_succ, List.getElem_cons_zero, List.setIfInBounds_toArray, List.set_cons_zero, List.set_cons_succ]
                obtain ⟨wa, hwa, ba, ra, za⟩ := boxR w14 (.bool false) (.slice none 0 0) (.slice none 0 0) 26
                rw [← hwa] at hHeld ⊢
                have RA : Hid (Room3 wa w14.heap.size) := ra
                have hsz : Hid (w11.heap.size ≤ w14.heap.size) := Below.size (by repeat (first | exact Ext.refl _ | refine Ext.trans ?_ (Ext.alloc _ _) | refine Ext.trans ?_ (drew_ext _) | refine Ext.trans ?_ ba | refine Ext.trans ?_ b40 | refine Ext.trans ?_ b39 | refine Ext.trans ?_ b38 | refine Ext.trans ?_ b37 | refine Ext.trans ?_ b36 | refine Ext.trans ?_ b35 | refine Ext.trans ?_ b34 | refine Ext.trans ?_ b33 | refine Ext.trans ?_ b32 | refine Ext.trans ?_ b31 | refine Ext.trans ?_ b30 | refine Ext.trans ?_ b29 | refine Ext.trans ?_ b28 | refine Ext.trans ?_ b27 | refine Ext.trans ?_ b26 | refine Ext.trans ?_ b25 | refine Ext.trans ?_ b24 | refine Ext.trans ?_ b23 | refine Ext.trans ?_ b22 | refine Ext.trans ?_ b21 | refine Ext.trans ?_ b20 | refine Ext.trans ?_ b19 | refine Ext.trans ?_ b18 | refine Ext.trans ?_ b17 | refine Ext.trans ?_ b16 | refine Ext.trans ?_ b15 | refine Ext.trans ?_ b14 | refine Ext.trans ?_ b13 | refine Ext.trans ?_ b12 | refine Ext.trans ?_ b11 | refine Ext.trans ?_ b10 | refine Ext.trans ?_ b9 | refine Ext.trans ?_ b8 | refine Ext.trans ?_ b7 | refine Ext.trans ?_ b6 | refine Ext.trans ?_ b5 | refine Ext.trans ?_ b4 | refine Ext.trans ?_ b3 | refine Ext.trans ?_ b2 | refine Ext.trans ?_ b1))
                have za : wa.heap.size = w14.heap.size + 1 := za
                clear hwa ra
                refine wpAnyH_ready (rs := [4]) (by kernel_rfl) (by simp) ?_
                refine AllReadyH.cons (o := _) rfl (fun K hK => ?_) AllReadyH.nil
                go_simp
                go_at_call 17; refine (HSUB.out _ _ _ (O13.out.ext (by repeat (first | exact Ext.refl _ | refine Ext.trans ?_ (Ext.alloc _ _) | refine Ext.trans ?_ (drew_ext _) | refine Ext.trans ?_ ba | refine Ext.trans ?_ b40 | refine Ext.trans ?_ b39 | refine Ext.trans ?_ b38 | refine Ext.trans ?_ b37 | refine Ext.trans ?_ b36 | refine Ext.trans ?_ b35 | refine Ext.trans ?_ b34 | refine Ext.trans ?_ b33 | refine Ext.trans ?_ b32 | refine Ext.trans ?_ b31 | refine Ext.trans ?_ b30 | refine Ext.trans ?_ b29 | refine Ext.trans ?_ b28 | refine Ext.trans ?_ b27 | refine Ext.trans ?_ b26 | refine Ext.trans ?_ b25 | refine Ext.trans ?_ b24 | refine Ext.trans ?_ b23 | refine Ext.trans ?_ b22 | refine Ext.trans ?_ b21 | refine Ext.trans ?_ b20 | refine Ext.trans ?_ b19 | refine Ext.trans ?_ b18 | refine Ext.trans ?_ b17 | refine Ext.trans ?_ b16 | refine Ext.trans ?_ b15 | refine Ext.trans ?_ b14 | refine Ext.trans ?_ b13 | refine Ext.trans ?_ b12 | refine Ext.trans ?_ b11 | refine Ext.trans ?_ b10 | refine Ext.trans ?_ b9 | refine Ext.trans ?_ b8 | refine Ext.trans ?_ b7 | refine Ext.trans ?_ b6 | refine Ext.trans ?_ b5 | refine Ext.trans ?_ b4 | refine Ext.trans ?_ b3 | refine Ext.trans ?_ b2 | refine Ext.trans ?_ b1))) (O14.out.ext (by repeat (first | exact Ext.refl _ | refine Ext.trans ?_ (Ext.alloc _ _) | refine Ext.trans ?_ (drew_ext _) | refine Ext.trans ?_ ba | refine Ext.trans ?_ b40 | refine Ext.trans ?_ b39 | refine Ext.trans ?_ b38 | refine Ext.trans ?_ b37 | refine Ext.trans ?_ b36 | refine Ext.trans ?_ b35 | refine Ext.trans ?_ b34 | refine Ext.trans ?_ b33 | refine Ext.trans ?_ b32 | refine Ext.trans ?_ b31 | refine Ext.trans ?_ b30 | refine Ext.trans ?_ b29 | refine Ext.trans ?_ b28 | refine Ext.trans ?_ b27 | refine Ext.trans ?_ b26 | refine Ext.trans ?_ b25 | refine Ext.trans ?_ b24 | refine Ext.trans ?_ b23 | refine Ext.trans ?_ b22 | refine Ext.trans ?_ b21 | refine Ext.trans ?_ b20 | refine Ext.trans ?_ b19 | refine Ext.trans ?_ b18 | refine Ext.trans ?_ b17 | refine Ext.trans ?_ b16 | refine Ext.trans ?_ b15 | refine Ext.trans ?_ b14 | refine Ext.trans ?_ b13 | refine Ext.trans ?_ b12 | refine Ext.trans ?_ b11 | refine Ext.trans ?_ b10 | refine Ext.trans ?_ b9 | refine Ext.trans ?_ b8 | refine Ext.trans ?_ b7 | refine Ext.trans ?_ b6 | refine Ext.trans ?_ b5 | refine Ext.trans ?_ b4 | refine Ext.trans ?_ b3 | refine Ext.trans ?_ b2 | refine Ext.trans ?_ b1)))).mono ?_; rintro e w15 ⟨_, rfl, b15, n15, d15, rfl, on15, od15⟩; have ON15 := Lib.hid on15; have OD15 := Lib.hid od15; clear on15 od15; obtain ⟨an15, cn15, rfl, -, -, -, -⟩ := ON15.out.rd.1.shape; obtain ⟨ad15, cd15, rfl, -, -, -, -⟩ := OD15.out.rd.1.shape
                go_wp2_with fail
                refine hK.out _ _ (⟨D3.out.ext (by repeat (first | exact Ext.refl _ | refine Ext.trans ?_ (Ext.alloc _ _) | refine Ext.trans ?_ (drew_ext _) | refine Ext.trans ?_ ba | refine Ext.trans ?_ b40 | refine Ext.trans ?_ b39 | refine Ext.trans ?_ b38 | refine Ext.trans ?_ b37 | refine Ext.trans ?_ b36 | refine Ext.trans ?_ b35 | refine Ext.trans ?_ b34 | refine Ext.trans ?_ b33 | refine Ext.trans ?_ b32 | refine Ext.trans ?_ b31 | refine Ext.trans ?_ b30 | refine Ext.trans ?_ b29 | refine Ext.trans ?_ b28 | refine Ext.trans ?_ b27 | refine Ext.trans ?_ b26 | refine Ext.trans ?_ b25 | refine Ext.trans ?_ b24 | refine Ext.trans ?_ b23 | refine Ext.trans ?_ b22 | refine Ext.trans ?_ b21 | refine Ext.trans ?_ b20 | refine Ext.trans ?_ b19 | refine Ext.trans ?_ b18 | refine Ext.trans ?_ b17 | refine Ext.trans ?_ b16 | refine Ext.trans ?_ b15 | refine Ext.trans ?_ b14 | refine Ext.trans ?_ b13 | refine Ext.trans ?_ b12 | refine Ext.trans ?_ b11 | refine Ext.trans ?_ b10 | refine Ext.trans ?_ b9 | refine Ext.trans ?_ b8 | refine Ext.trans ?_ b7 | refine Ext.trans ?_ b6 | refine Ext.trans ?_ b5 | refine Ext.trans ?_ b4 | refine Ext.trans ?_ b3 | refine Ext.trans ?_ b2 | refine Ext.trans ?_ b1)), D5.out.ext (by repeat (first | exact Ext.refl _ | refine Ext.trans ?_ (Ext.alloc _ _) | refine Ext.trans ?_ (drew_ext _) | refine Ext.trans ?_ ba | refine Ext.trans ?_ b40 | refine Ext.trans ?_ b39 | refine Ext.trans ?_ b38 | refine Ext.trans ?_ b37 | refine Ext.trans ?_ b36 | refine Ext.trans ?_ b35 | refine Ext.trans ?_ b34 | refine Ext.trans ?_ b33 | refine Ext.trans ?_ b32 | refine Ext.trans ?_ b31 | refine Ext.trans ?_ b30 | refine Ext.trans ?_ b29 | refine Ext.trans ?_ b28 | refine Ext.trans ?_ b27 | refine Ext.trans ?_ b26 | refine Ext.trans ?_ b25 | refine Ext.trans ?_ b24 | refine Ext.trans ?_ b23 | refine Ext.trans ?_ b22 | refine Ext.trans ?_ b21 | refine Ext.trans ?_ b20 | refine Ext.trans ?_ b19 | refine Ext.trans ?_ b18 | refine Ext.trans ?_ b17 | refine Ext.trans ?_ b16 | refine Ext.trans ?_ b15 | refine Ext.trans ?_ b14 | refine Ext.trans ?_ b13 | refine Ext.trans ?_ b12 | refine Ext.trans ?_ b11 | refine Ext.trans ?_ b10 | refine Ext.trans ?_ b9 | refine Ext.trans ?_ b8 | refine Ext.trans ?_ b7 | refine Ext.trans ?_ b6 | refine Ext.trans ?_ b5 | refine Ext.trans ?_ b4 | refine Ext.trans ?_ b3 | refine Ext.trans ?_ b2 | refine Ext.trans ?_ b1))⟩) (fun hHeld => ?_)
                clear hK K
                try simp only [Act.put, List.getElem_toArray, List.getElem_cons_succ, List.getElem_cons_zero, List.setIfInBounds_toArray, List.set_cons_zero, List.set_cons_succ]
                obtain ⟨_, _, _, j0, j1, j2, g0, g1, g2⟩ := (RA.out.ext (show Ext wa w15 from (by repeat (first | exact Ext.refl _ | refine Ext.trans ?_ (Ext.alloc _ _) | refine Ext.trans ?_ (drew_ext _) | refine Ext.trans ?_ ba | refine Ext.trans ?_ b40 | refine Ext.trans ?_ b39 | refine Ext.trans ?_ b38 | refine Ext.trans ?_ b37 | refine Ext.trans ?_ b36 | refine Ext.trans ?_ b35 | refine Ext.trans ?_ b34 | refine Ext.trans ?_ b33 | refine Ext.trans ?_ b32 | refine Ext.trans ?_ b31 | refine Ext.trans ?_ b30 | refine Ext.trans ?_ b29 | refine Ext.trans ?_ b28 | refine Ext.trans ?_ b27 | refine Ext.trans ?_ b26 | refine Ext.trans ?_ b25 | refine Ext.trans ?_ b24 | refine Ext.trans ?_ b23 | refine Ext.trans ?_ b22 | refine Ext.trans ?_ b21 | refine Ext.trans ?_ b20 | refine Ext.trans ?_ b19 | refine Ext.trans ?_ b18 | refine Ext.trans ?_ b17 | refine Ext.trans ?_ b16 | refine Ext.trans ?_ b15 | refine Ext.trans ?_ b14 | refine Ext.trans ?_ b13 | refine Ext.trans ?_ b12 | refine Ext.trans ?_ b11 | refine Ext.trans ?_ b10 | refine Ext.trans ?_ b9 | refine Ext.trans ?_ b8 | refine Ext.trans ?_ b7 | refine Ext.trans ?_ b6 | refine Ext.trans ?_ b5 | refine Ext.trans ?_ b4 | refine Ext.trans ?_ b3 | refine Ext.trans ?_ b2 | refine Ext.trans ?_ b1)))).cells
                refine wpAnyH_ready (rs := [6]) (by kernel_rfl) (by simp) ?_
                refine AllReadyH.cons (o := _) rfl (fun K hK => ?_) AllReadyH.nil
                go_simp
                refine hK.out _ _ (⟨(D3.out.ext (show Ext w11 w15 from (by repeat (first | exact Ext.refl _ | refine Ext.trans ?_ (Ext.alloc _ _) | refine Ext.trans ?_ (drew_ext _) | refine Ext.trans ?_ ba | refine Ext.trans ?_ b40 | refine Ext.trans ?_ b39 | refine Ext.trans ?_ b38 | refine Ext.trans ?_ b37 | refine Ext.trans ?_ b36 | refine Ext.trans ?_ b35 | refine Ext.trans ?_ b34 | refine Ext.trans ?_ b33 | refine Ext.trans ?_ b32 | refine Ext.trans ?_ b31 | refine Ext.trans ?_ b30 | refine Ext.trans ?_ b29 | refine Ext.trans ?_ b28 | refine Ext.trans ?_ b27 | refine Ext.trans ?_ b26 | refine Ext.trans ?_ b25 | refine Ext.trans ?_ b24 | refine Ext.trans ?_ b23 | refine Ext.trans ?_ b22 | refine Ext.trans ?_ b21 | refine Ext.trans ?_ b20 | refine Ext.trans ?_ b19 | refine Ext.trans ?_ b18 | refine Ext.trans ?_ b17 | refine Ext.trans ?_ b16 | refine Ext.trans ?_ b15 | refine Ext.trans ?_ b14 | refine Ext.trans ?_ b13 | refine Ext.trans ?_ b12 | refine Ext.trans ?_ b11 | refine Ext.trans ?_ b10 | refine Ext.trans ?_ b9 | refine Ext.trans ?_ b8 | refine Ext.trans ?_ b7 | refine Ext.trans ?_ b6 | refine Ext.trans ?_ b5 | refine Ext.trans ?_ b4 | refine Ext.trans ?_ b3 | refine Ext.trans ?_ b2 | refine Ext.trans ?_ b1)))).put (c := w14.heap.size) (by have := hsz.out; have := hsq.out; omega) _ _ _, (D5.out.ext (show Ext w11 w15 from (by repeat (first | exact Ext.refl _ | refine Ext.trans ?_ (Ext.alloc _ _) | refine Ext.trans ?_ (drew_ext _) | refine Ext.trans ?_ ba | refine Ext.trans ?_ b40 | refine Ext.trans ?_ b39 | refine Ext.trans ?_ b38 | refine Ext.trans ?_ b37 | refine Ext.trans ?_ b36 | refine Ext.trans ?_ b35 | refine Ext.trans ?_ b34 | refine Ext.trans ?_ b33 | refine Ext.trans ?_ b32 | refine Ext.trans ?_ b31 | refine Ext.trans ?_ b30 | refine Ext.trans ?_ b29 | refine Ext.trans ?_ b28 | refine Ext.trans ?_ b27 | refine Ext.trans ?_ b26 | refine Ext.trans ?_ b25 | refine Ext.trans ?_ b24 | refine Ext.trans ?_ b23 | refine Ext.trans ?_ b22 | refine Ext.trans ?_ b21 | refine Ext.trans ?_ b20 | refine Ext.trans ?_ b19 | refine Ext.trans ?_ b18 | refine Ext.trans ?_ b17 | refine Ext.trans ?_ b16 | refine Ext.trans ?_ b15 | refine Ext.trans ?_ b14 | refine Ext.trans ?_ b13 | refine Ext.trans ?_ b12 | refine Ext.trans ?_ b11 | refine Ext.trans ?_ b10 | refine Ext.trans ?_ b9 | refine Ext.trans ?_ b8 | refine Ext.trans ?_ b7 | refine Ext.trans ?_ b6 | refine Ext.trans ?_ b5 | refine Ext.trans ?_ b4 | refine Ext.trans ?_ b3 | refine Ext.trans ?_ b2 | refine Ext.trans ?_ b1)))).put (c := w14.heap.size) (by have := hsz.out; have := hsq.out; omega) _ _ _⟩) (fun hHeld => ?_)
                clear hK K
                try simp only [Act.put, List.getElem_toArray, List.getElem_cons_succ, List.getElem_cons_zero, List.setIfInBounds_toArray, List.set_cons_zero, List.set_cons_succ]
                refine wpAnyH_done (by kernel_rfl) ?_ _
                refine NoPanic.normal ?_
                have hd11 : w11.drew.heap.size = w11.heap.size := rfl
                have h13 := b13.size
                have h14 := b14.size
                have h15 := b15.size
                have ha := ba.size
                have hda : wa.drew.heap.size = wa.heap.size := rfl
                go_wp2_with fail
                go_meet
                exact ⟨put3_below (by repeat (first | exact Ext.refl _ | refine Ext.trans ?_ (Ext.alloc _ _) | refine Ext.trans ?_ (drew_ext _) | refine Ext.trans ?_ ba | refine Ext.trans ?_ b40 | refine Ext.trans ?_ b39 | refine Ext.trans ?_ b38 | refine Ext.trans ?_ b37 | refine Ext.trans ?_ b36 | refine Ext.trans ?_ b35 | refine Ext.trans ?_ b34 | refine Ext.trans ?_ b33 | refine Ext.trans ?_ b32 | refine Ext.trans ?_ b31 | refine Ext.trans ?_ b30 | refine Ext.trans ?_ b29 | refine Ext.trans ?_ b28 | refine Ext.trans ?_ b27 | refine Ext.trans ?_ b26 | refine Ext.trans ?_ b25 | refine Ext.trans ?_ b24 | refine Ext.trans ?_ b23 | refine Ext.trans ?_ b22 | refine Ext.trans ?_ b21 | refine Ext.trans ?_ b20 | refine Ext.trans ?_ b19 | refine Ext.trans ?_ b18 | refine Ext.trans ?_ b17 | refine Ext.trans ?_ b16 | refine Ext.trans ?_ b15 | refine Ext.trans ?_ b14 | refine Ext.trans ?_ b13 | refine Ext.trans ?_ b12 | refine Ext.trans ?_ b11 | refine Ext.trans ?_ b10 | refine Ext.trans ?_ b9 | refine Ext.trans ?_ b8 | refine Ext.trans ?_ b7 | refine Ext.trans ?_ b6 | refine Ext.trans ?_ b5 | refine Ext.trans ?_ b4 | refine Ext.trans ?_ b3 | refine Ext.trans ?_ b2 | refine Ext.trans ?_ b1)) hsz.out _ _ _, _, _, _, _, _, _, _, _, rfl, Box3.put_at (RA.out.ext (by repeat (first | exact Ext.refl _ | refine Ext.trans ?_ (Ext.alloc _ _) | refine Ext.trans ?_ (drew_ext _) | refine Ext.trans ?_ ba | refine Ext.trans ?_ b40 | refine Ext.trans ?_ b39 | refine Ext.trans ?_ b38 | refine Ext.trans ?_ b37 | refine Ext.trans ?_ b36 | refine Ext.trans ?_ b35 | refine Ext.trans ?_ b34 | refine Ext.trans ?_ b33 | refine Ext.trans ?_ b32 | refine Ext.trans ?_ b31 | refine Ext.trans ?_ b30 | refine Ext.trans ?_ b29 | refine Ext.trans ?_ b28 | refine Ext.trans ?_ b27 | refine Ext.trans ?_ b26 | refine Ext.trans ?_ b25 | refine Ext.trans ?_ b24 | refine Ext.trans ?_ b23 | refine Ext.trans ?_ b22 | refine Ext.trans ?_ b21 | refine Ext.trans ?_ b20 | refine Ext.trans ?_ b19 | refine Ext.trans ?_ b18 | refine Ext.trans ?_ b17 | refine Ext.trans ?_ b16 | refine Ext.trans ?_ b15 | refine Ext.trans ?_ b14 | refine Ext.trans ?_ b13 | refine Ext.trans ?_ b12 | refine Ext.trans ?_ b11 | refine Ext.trans ?_ b10 | refine Ext.trans ?_ b9 | refine Ext.trans ?_ b8 | refine Ext.trans ?_ b7 | refine Ext.trans ?_ b6 | refine Ext.trans ?_ b5 | refine Ext.trans ?_ b4 | refine Ext.trans ?_ b3 | refine Ext.trans ?_ b2 | refine Ext.trans ?_ b1))) _ _ _, _, _, rfl, (ON15.out.put_new (by repeat (first | exact Ext.refl _ | refine Ext.trans ?_ (Ext.alloc _ _) | refine Ext.trans ?_ (drew_ext _) | refine Ext.trans ?_ ba | refine Ext.trans ?_ b40 | refine Ext.trans ?_ b39 | refine Ext.trans ?_ b38 | refine Ext.trans ?_ b37 | refine Ext.trans ?_ b36 | refine Ext.trans ?_ b35 | refine Ext.trans ?_ b34 | refine Ext.trans ?_ b33 | refine Ext.trans ?_ b32 | refine Ext.trans ?_ b31 | refine Ext.trans ?_ b30 | refine Ext.trans ?_ b29 | refine Ext.trans ?_ b28 | refine Ext.trans ?_ b27 | refine Ext.trans ?_ b26 | refine Ext.trans ?_ b25 | refine Ext.trans ?_ b24 | refine Ext.trans ?_ b23 | refine Ext.trans ?_ b22 | refine Ext.trans ?_ b21 | refine Ext.trans ?_ b20 | refine Ext.trans ?_ b19 | refine Ext.trans ?_ b18 | refine Ext.trans ?_ b17 | refine Ext.trans ?_ b16 | refine Ext.trans ?_ b15 | refine Ext.trans ?_ b14 | refine Ext.trans ?_ b13 | refine Ext.trans ?_ b12 | refine Ext.trans ?_ b11 | refine Ext.trans ?_ b10 | refine Ext.trans ?_ b9 | refine Ext.trans ?_ b8 | refine Ext.trans ?_ b7 | refine Ext.trans ?_ b6 | refine Ext.trans ?_ b5 | refine Ext.trans ?_ b4 | refine Ext.trans ?_ b3 | refine Ext.trans ?_ b2 | refine Ext.trans ?_ b1)) (by omega) _ _ _).rd, (OD15.out.put_new (by repeat (first | exact Ext.refl _ | refine Ext.trans ?_ (Ext.alloc _ _) | refine Ext.trans ?_ (drew_ext _) | refine Ext.trans ?_ ba | refine Ext.trans ?_ b40 | refine Ext.trans ?_ b39 | refine Ext.trans ?_ b38 | refine Ext.trans ?_ b37 | refine Ext.trans ?_ b36 | refine Ext.trans ?_ b35 | refine Ext.trans ?_ b34 | refine Ext.trans ?_ b33 | refine Ext.trans ?_ b32 | refine Ext.trans ?_ b31 | refine Ext.trans ?_ b30 | refine Ext.trans ?_ b29 | refine Ext.trans ?_ b28 | refine Ext.trans ?_ b27 | refine Ext.trans ?_ b26 | refine Ext.trans ?_ b25 | refine Ext.trans ?_ b24 | refine Ext.trans ?_ b23 | refine Ext.trans ?_ b22 | refine Ext.trans ?_ b21 | refine Ext.trans ?_ b20 | refine Ext.trans ?_ b19 | refine Ext.trans ?_ b18 | refine Ext.trans ?_ b17 | refine Ext.trans ?_ b16 | refine Ext.trans ?_ b15 | refine Ext.trans ?_ b14 | refine Ext.trans ?_ b13 | refine Ext.trans ?_ b12 | refine Ext.trans ?_ b11 | refine Ext.trans ?_ b10 | refine Ext.trans ?_ b9 | refine Ext.trans ?_ b8 | refine Ext.trans ?_ b7 | refine Ext.trans ?_ b6 | refine Ext.trans ?_ b5 | refine Ext.trans ?_ b4 | refine Ext.trans ?_ b3 | refine Ext.trans ?_ b2 | refine Ext.trans ?_ b1)) (by omega) _ _ _).rd⟩
            · skip
              go_simp
              refine hK.out _ _ (⟨D3.out.ext (by repeat (first | exact Ext.refl _ | refine Ext.trans ?_ (Ext.alloc _ _) | refine Ext.trans ?_ (drew_ext _) | refine Ext.trans ?_ ba | refine Ext.trans ?_ b40 | refine Ext.trans ?_ b39 | refine Ext.trans ?_ b38 | refine Ext.trans ?_ b37 | refine Ext.trans ?_ b36 | refine Ext.trans ?_ b35 | refine Ext.trans ?_ b34 | refine Ext.trans ?_ b33 | refine Ext.trans ?_ b32 | refine Ext.trans ?_ b31 | refine Ext.trans ?_ b30 | refine Ext.trans ?_ b29 | refine Ext.trans ?_ b28 | refine Ext.trans ?_ b27 | refine Ext.trans ?_ b26 | refine Ext.trans ?_ b25 | refine Ext.trans ?_ b24 | refine Ext.trans ?_ b23 | refine Ext.trans ?_ b22 | refine Ext.trans ?_ b21 | refine Ext.trans ?_ b20 | refine Ext.trans ?_ b19 | refine Ext.trans ?_ b18 | refine Ext.trans ?_ b17 | refine Ext.trans ?_ b16 | refine Ext.trans ?_ b15 | refine Ext.trans ?_ b14 | refine Ext.trans ?_ b13 | refine Ext.trans ?_ b12 | refine Ext.trans ?_ b11 | refine Ext.trans ?_ b10 | refine Ext.trans ?_ b9 | refine Ext.trans ?_ b8 | refine Ext.trans ?_ b7 | refine Ext.trans ?_ b6 | refine Ext.trans ?_ b5 | refine Ext.trans ?_ b4 | refine Ext.trans ?_ b3 | refine Ext.trans ?_ b2 | refine Ext.trans ?_ b1)), D5.out.ext (by repeat (first | exact Ext.refl _ | refine Ext.trans ?_ (Ext.alloc _ _) | refine Ext.trans ?_ (drew_ext _) | refine Ext.trans ?_ ba | refine Ext.trans ?_ b40 | refine Ext.trans ?_ b39 | refine Ext.trans ?_ b38 | refine Ext.trans ?_ b37 | refine Ext.trans ?_ b36 | refine Ext.trans ?_ b35 | refine Ext.trans ?_ b34 | refine Ext.trans ?_ b33 | refine Ext.trans ?_ b32 | refine Ext.trans ?_ b31 | refine Ext.trans ?_ b30 | refine Ext.trans ?_ b29 | refine Ext.trans ?_ b28 | refine Ext.trans ?_ b27 | refine Ext.trans ?_ b26 | refine Ext.trans ?_ b25 | refine Ext.trans ?_ b24 | refine Ext.trans ?_ b23 | refine Ext.trans ?_ b22 | refine Ext.trans ?_ b21 | refine Ext.trans ?_ b20 | refine Ext.trans ?_ b19 | refine Ext.trans ?_ b18 | refine Ext.trans ?_ b17 | refine Ext.trans ?_ b16 | refine Ext.trans ?_ b15 | refine Ext.trans ?_ b14 | refine Ext.trans ?_ b13 | refine Ext.trans ?_ b12 | refine Ext.trans ?_ b11 | refine Ext.trans ?_ b10 | refine Ext.trans ?_ b9 | refine Ext.trans ?_ b8 | refine Ext.trans ?_ b7 | refine Ext.trans ?_ b6 | refine Ext.trans ?_ b5 | refine Ext.trans ?_ b4 | refine Ext.trans ?_ b3 | refine Ext.trans ?_ b2 | refine Ext.trans ?_ b1))⟩) (fun hHeld => ?_)
              clear hK K
              try simp only [Act.put, List.getElem_toArray, List.getElem_cons_succ, List.getElem_cons_zero, List.setIfInBounds_toArray, List.set_cons_zero, List.set_cons_succ]
              obtain ⟨wa, hwa, ba, ra, za⟩ := boxR w13 (.bool false) (.slice none 0 0) (.slice none 0 0) 26
              rw [← hwa] at hHeld ⊢
              have RA : Hid (Room3 wa w13.heap.size) := ra
              have hsz : Hid (w11.heap.size ≤ w13.heap.size) := Below.size (by repeat (first | exact Ext.refl _ | refine Ext.trans ?_ (Ext.alloc _ _) | refine Ext.trans ?_ (drew_ext _) | refine Ext.trans ?_ ba | refine Ext.trans ?_ b40 | refine Ext.trans ?_ b39 | refine Ext.trans ?_ b38 | refine Ext.trans ?_ b37 | refine Ext.trans ?_ b36 | refine Ext.trans ?_ b35 | refine Ext.trans ?_ b34 | refine Ext.trans ?_ b33 | refine Ext.trans ?_ b32 | refine Ext.trans ?_ b31 | refine Ext.trans ?_ b30 | refine Ext.trans ?_ b29 | refine Ext.trans ?_ b28 | refine Ext.trans ?_ b27 | refine Ext.trans ?_ b26 | refine Ext.trans ?_ b25 | refine Ext.trans ?_ b24 | refine Ext.trans ?_ b23 | refine Ext.trans ?_ b22 | refine Ext.trans ?_ b21 | refine Ext.trans ?_ b20 | refine Ext.trans ?_ b19 | refine Ext.trans ?_ b18 | refine Ext.trans ?_ b17 | refine Ext.trans ?_ b16 | refine Ext.trans ?_ b15 | refine Ext.trans ?_ b14 | refine Ext.trans ?_ b13 | refine Ext.trans ?_ b12 | refine Ext.trans ?_ b11 | refine Ext.trans ?_ b10 | refine Ext.trans ?_ b9 | refine Ext.trans ?_ b8 | refine Ext.trans ?_ b7 | refine Ext.trans ?_ b6 | refine Ext.trans ?_ b5 | refine Ext.trans ?_ b4 | refine Ext.trans ?_ b3 | refine Ext.trans ?_ b2 | refine Ext.trans ?_ b1))
              have za : wa.heap.size = w13.heap.size + 1 := za
              clear hwa ra
              refine wpAnyH_ready (rs := [3]) (by kernel_rfl) (by simp) ?_
              refine AllReadyH.cons (o := _) rfl (fun K hK => ?_) AllReadyH.nil
              go_simp
              go_at_call 18; refine (rabs_any (RD11.out.ext (by repeat (first | exact Ext.refl _ | refine Ext.trans ?_ (Ext.alloc _ _) | refine Ext.trans ?_ (drew_ext _) | refine Ext.trans ?_ ba | refine Ext.trans ?_ b40 | refine Ext.trans ?_ b39 | refine Ext.trans ?_ b38 | refine Ext.trans ?_ b37 | refine Ext.trans ?_ b36 | refine Ext.trans ?_ b35 | refine Ext.trans ?_ b34 | refine Ext.trans ?_ b33 | refine Ext.trans ?_ b32 | refine Ext.trans ?_ b31 | refine Ext.trans ?_ b30 | refine Ext.trans ?_ b29 | refine Ext.trans ?_ b28 | refine Ext.trans ?_ b27 | refine Ext.trans ?_ b26 | refine Ext.trans ?_ b25 | refine Ext.trans ?_ b24 | refine Ext.trans ?_ b23 | refine Ext.trans ?_ b22 | refine Ext.trans ?_ b21 | refine Ext.trans ?_ b20 | refine Ext.trans ?_ b19 | refine Ext.trans ?_ b18 | refine Ext.trans ?_ b17 | refine Ext.trans ?_ b16 | refine Ext.trans ?_ b15 | refine Ext.trans ?_ b14 | refine Ext.trans ?_ b13 | refine Ext.trans ?_ b12 | refine Ext.trans ?_ b11 | refine Ext.trans ?_ b10 | refine Ext.trans ?_ b9 | refine Ext.trans ?_ b8 | refine Ext.trans ?_ b7 | refine Ext.trans ?_ b6 | refine Ext.trans ?_ b5 | refine Ext.trans ?_ b4 | refine Ext.trans ?_ b3 | refine Ext.trans ?_ b2 | refine Ext.trans ?_ b1)))).mono ?_; rintro e w14 ⟨v14, rfl, b14, o14⟩; have O14 := Lib.hid o14; clear o14
              go_wp2_with fail
              refine hK.out _ _ (⟨D3.out.ext (by repeat (first | exact Ext.refl _ | refine Ext.trans ?_ (Ext.alloc _ _) | refine Ext.trans ?_ (drew_ext _) | refine Ext.trans ?_ ba | refine Ext.trans ?_ b40 | refine Ext.trans ?_ b39 | refine Ext.trans ?_ b38 | refine Ext.trans ?_ b37 | refine Ext.trans ?_ b36 | refine Ext.trans ?_ b35 | refine Ext.trans ?_ b34 | refine Ext.trans ?_ b33 | refine Ext.trans ?_ b32 | refine Ext.trans ?_ b31 | refine Ext.trans ?_ b30 | refine Ext.trans ?_ b29 | refine Ext.trans ?_ b28 | refine Ext.trans ?_ b27 | refine Ext.trans ?_ b26 | refine Ext.trans ?_ b25 | refine Ext.trans ?_ b24 | refine Ext.trans ?_ b23 | refine Ext.trans ?_ b22 | refine Ext.trans ?_ b21 | refine Ext.trans ?_ b20 | refine Ext.trans ?_ b19 | refine Ext.trans ?_ b18 | refine Ext.trans ?_ b17 | refine Ext.trans ?_ b16 | refine Ext.trans ?_ b15 | refine Ext.trans ?_ b14 | refine Ext.trans ?_ b13 | refine Ext.trans ?_ b12 | refine Ext.trans ?_ b11 | refine Ext.trans ?_ b10 | refine Ext.trans ?_ b9 | refine Ext.trans ?_ b8 | refine Ext.trans ?_ b7 | refine Ext.trans ?_ b6 | refine Ext.trans ?_ b5 | refine Ext.trans ?_ b4 | refine Ext.trans ?_ b3 | refine Ext.trans ?_ b2 | refine Ext.trans ?_ b1)), D5.out.ext (by repeat (first | exact Ext.refl _ | refine Ext.trans ?_ (Ext.alloc _ _) | refine Ext.trans ?_ (drew_ext _) | refine Ext.trans ?_ ba | refine Ext.trans ?_ b40 | refine Ext.trans ?_ b39 | refine Ext.trans ?_ b38 | refine Ext.trans ?_ b37 | refine Ext.trans ?_ b36 | refine Ext.trans ?_ b35 | refine Ext.trans ?_ b34 | refine Ext.trans ?_ b33 | refine Ext.trans ?_ b32 | refine Ext.trans ?_ b31 | refine Ext.trans ?_ b30 | refine Ext.trans ?_ b29 | refine Ext.trans ?_ b28 | refine Ext.trans ?_ b27 | refine Ext.trans ?_ b26 | refine Ext.trans ?_ b25 | refine Ext.trans ?_ b24 | refine Ext.trans ?_ b23 | refine Ext.trans ?_ b22 | refine Ext.trans ?_ b21 | refine Ext.trans ?_ b20 | refine Ext.trans ?_ b19 | refine Ext.trans ?_ b18 | refine Ext.trans ?_ b17 | refine Ext.trans ?_ b16 | refine Ext.trans ?_ b15 | refine Ext.trans ?_ b14 | refine Ext.trans ?_ b13 | refine Ext.trans ?_ b12 | refine Ext.trans ?_ b11 | refine Ext.trans ?_ b10 | refine Ext.trans ?_ b9 | refine Ext.trans ?_ b8 | refine Ext.trans ?_ b7 | refine Ext.trans ?_ b6 | refine Ext.trans ?_ b5 | refine Ext.trans ?_ b4 | refine Ext.trans ?_ b3 | refine Ext.trans ?_ b2 | refine Ext.trans ?_ b1))⟩) (fun hHeld => ?_)
              clear hK K
              try simp only [Act.put, List.getElem_toArray, List.getElem_cons_succ, List.getElem_cons_zero, List.setIfInBounds_toArray, List.set_cons_zero, List.set_cons_succ]
              refine wpAnyH_ready (rs := [4]) (by kernel_rfl) (by simp) ?_
              refine AllReadyH.cons (o := _) rfl (fun K hK => ?_) AllReadyH.nil
              go_simp
              go_at_call 17; refine (HSUB.out _ _ _ (O13.out.ext (by repeat (first | exact Ext.refl _ | refine Ext.trans ?_ (Ext.alloc _ _) | refine Ext.trans ?_ (drew_ext _) | refine Ext.trans ?_ ba | refine Ext.trans ?_ b40 | refine Ext.trans ?_ b39 | refine Ext.trans ?_ b38 | refine Ext.trans ?_ b37 | refine Ext.trans ?_ b36 | refine Ext.trans ?_ b35 | refine Ext.trans ?_ b34 | refine Ext.trans ?_ b33 | refine Ext.trans ?_ b32 | refine Ext.trans ?_ b31 | refine Ext.trans ?_ b30 | refine Ext.trans ?_ b29 | refine Ext.trans ?_ b28 | refine Ext.trans ?_ b27 | refine Ext.trans ?_ b26 | refine Ext.trans ?_ b25 | refine Ext.trans ?_ b24 | refine Ext.trans ?_ b23 | refine Ext.trans ?_ b22 | refine Ext.trans ?_ b21 | refine Ext.trans ?_ b20 | refine Ext.trans ?_ b19 | refine Ext.trans ?_ b18 | refine Ext.trans ?_ b17 | refine Ext.trans ?_ b16 | refine Ext.trans ?_ b15 | refine Ext.trans ?_ b14 | refine Ext.trans ?_ b13 | refine Ext.trans ?_ b12 | refine Ext.trans ?_ b11 | refine Ext.trans ?_ b10 | refine Ext.trans ?_ b9 | refine Ext.trans ?_ b8 | refine Ext.trans ?_ b7 | refine Ext.trans ?_ b6 | refine Ext.trans ?_ b5 | refine Ext.trans ?_ b4 | refine Ext.trans ?_ b3 | refine Ext.trans ?_ b2 | refine Ext.trans ?_ b1))) (O14.out.ext (by repeat (first | exact Ext.refl _ | refine Ext.trans ?_ (Ext.alloc _ _) | refine Ext.trans ?_ (drew_ext _) | refine Ext.trans ?_ ba | refine Ext.trans ?_ b40 | refine Ext.trans ?_ b39 | refine Ext.trans ?_ b38 | refine Ext.trans ?_ b37 | refine Ext.trans ?_ b36 | refine Ext.trans ?_ b35 | refine Ext.trans ?_ b34 | refine Ext.trans ?_ b33 | refine Ext.trans ?_ b32 | refine Ext.trans ?_ b31 | refine Ext.trans ?_ b30 | refine Ext.trans ?_ b29 | refine Ext.trans ?_ b28 | refine Ext.trans ?_ b27 | refine Ext.trans ?_ b26 | refine Ext.trans ?_ b25 | refine Ext.trans ?_ b24 | refine Ext.trans ?_ b23 | refine Ext.trans ?_ b22 | refine Ext.trans ?_ b21 | refine Ext.trans ?_ b20 | refine Ext.trans ?_ b19 | refine Ext.trans ?_ b18 | refine Ext.trans ?_ b17 | refine Ext.trans ?_ b16 | refine Ext.trans ?_ b15 | refine Ext.trans ?_ b14 | refine Ext.trans ?_ b13 | refine Ext.trans ?_ b12 | refine Ext.trans ?_ b11 | refine Ext.trans ?_ b10 | refine Ext.trans ?_ b9 | refine Ext.trans ?_ b8 | refine Ext.trans ?_ b7 | refine Ext.trans ?_ b6 | refine Ext.trans ?_ b5 | refine Ext.trans ?_ b4 | refine Ext.trans ?_ b3 | refine Ext.trans ?_ b2 | refine Ext.trans ?_ b1)))).mono ?_; rintro e w15 ⟨_, rfl, b15, n15, d15, rfl, on15, od15⟩; have ON15 := Lib.hid on15; have OD15 := Lib.hid od15; clear on15 od15; obtain ⟨an15, cn15, rfl, -, -, -, -⟩ := ON15.out.rd.1.shape; obtain ⟨ad15, cd15, rfl, -, -, -, -⟩ := OD15.out.rd.1.shape
              go_wp2_with fail
              refine hK.out _ _ (⟨D3.out.ext (by repeat (first | exact Ext.refl _ | refine Ext.trans ?_ (Ext.alloc _ _) | refine Ext.trans ?_ (drew_ext _) | refine Ext.trans ?_ ba | refine Ext.trans ?_ b40 | refine Ext.trans ?_ b39 | refine Ext.trans ?_ b38 | refine Ext.trans ?_ b37 | refine Ext.trans ?_ b36 | refine Ext.trans ?_ b35 | refine Ext.trans ?_ b34 | refine Ext.trans ?_ b33 | refine Ext.trans ?_ b32 | refine Ext.trans ?_ b31 | refine Ext.trans ?_ b30 | refine Ext.trans ?_ b29 | refine Ext.trans ?_ b28 | refine Ext.trans ?_ b27 | refine Ext.trans ?_ b26 | refine Ext.trans ?_ b25 | refine Ext.trans ?_ b24 | refine Ext.trans ?_ b23 | refine Ext.trans ?_ b22 | refine Ext.trans ?_ b21 | refine Ext.trans ?_ b20 | refine Ext.trans ?_ b19 | refine Ext.trans ?_ b18 | refine Ext.trans ?_ b17 | refine Ext.trans ?_ b16 | refine Ext.trans ?_ b15 | refine Ext.trans ?_ b14 | refine Ext.trans ?_ b13 | refine Ext.trans ?_ b12 | refine Ext.trans ?_ b11 | refine Ext.trans ?_ b10 | refine Ext.trans ?_ b9 | refine Ext.trans ?_ b8 | refine Ext.trans ?_ b7 | refine Ext.trans ?_ b6 | refine Ext.trans ?_ b5 | refine Ext.trans ?_ b4 | refine Ext.trans ?_ b3 | refine Ext.trans ?_ b2 | refine Ext.trans ?_ b1)), D5.out.ext (by repeat (first | exact Ext.refl _ | refine Ext.trans ?_ (Ext.alloc _ _) | refine Ext.trans ?_ (drew_ext _) | refine Ext.trans ?_ ba | refine Ext.trans ?_ b40 | refine Ext.trans ?_ b39 | refine Ext.trans ?_ b38 | refine Ext.trans ?_ b37 | refine Ext.trans ?_ b36 | refine Ext.trans ?_ b35 | refine Ext.trans ?_ b34 | refine Ext.trans ?_ b33 | refine Ext.trans ?_ b32 | refine Ext.trans ?_ b31 | refine Ext.trans ?_ b30 | refine Ext.trans ?_ b29 | refine Ext.trans ?_ b28 | refine Ext.trans ?_ b27 | refine Ext.trans ?_ b26 | refine Ext.trans ?_ b25 | refine Ext.trans ?_ b24 | refine Ext.trans ?_ b23 | refine Ext.trans ?_ b22 | refine Ext.trans ?_ b21 | refine Ext.trans ?_ b20 | refine Ext.trans ?_ b19 | refine Ext.trans ?_ b18 | refine Ext.trans ?_ b17 | refine Ext.trans ?_ b16 | refine Ext.trans ?_ b15 | refine Ext.trans ?_ b14 | refine Ext.trans ?_ b13 | refine Ext.trans ?_ b12 | refine Ext.trans ?_ b11 | refine Ext.trans ?_ b10 | refine Ext.trans ?_ b9 | refine Ext.trans ?_ b8 | refine Ext.trans ?_ b7 | refine Ext.trans ?_ b6 | refine Ext.trans ?_ b5 | refine Ext.trans ?_ b4 | refine Ext.trans ?_ b3 | refine Ext.trans ?_ b2 | refine Ext.trans ?_ b1))⟩) (fun hHeld => ?_)
              clear hK K
              try simp only [Act.put, List.getElem_toArray, List.getElem_cons_succ, List.getElem_cons_zero, List.setIfInBounds_toArray, List.set_cons_zero, List.set_cons_succ]
              obtain ⟨_, _, _, j0, j1, j2, g0, g1, g2⟩ := (RA.out.ext (show Ext wa w15 from (by repeat (first | exact Ext.refl _ | refine Ext.trans ?_ (Ext.alloc _ _) | refine Ext.trans ?_ (drew_ext _) | refine Ext.trans ?_ ba | refine Ext.trans ?_ b40 | refine Ext.trans ?_ b39 | refine Ext.trans ?_ b38 | refine Ext.trans ?_ b37 | refine Ext.trans ?_ b36 | refine Ext.trans ?_ b35 | refine Ext.trans ?_ b34 | refine Ext.trans ?_ b33 | refine Ext.trans ?_ b32 | refine Ext.trans ?_ b31 | refine Ext.trans ?_ b30 | refine Ext.trans ?_ b29 | refine Ext.trans ?_ b28 | refine Ext.trans ?_ b27 | refine Ext.trans ?_ b26 | refine Ext.trans ?_ b25 | refine Ext.trans ?_ b24 | refine Ext.trans ?_ b23 | refine Ext.trans ?_ b22 | refine Ext.trans ?_ b21 | refine Ext.trans ?_ b20 | refine Ext.trans ?_ b19 | refine Ext.trans ?_ b18 | refine Ext.trans ?_ b17 | refine Ext.trans ?_ b16 | refine Ext.trans ?_ b15 | refine Ext.trans ?_ b14 | refine Ext.trans ?_ b13 | refine Ext.trans ?_ b12 | refine Ext.trans ?_ b11 | refine Ext.trans ?_ b10 | refine Ext.trans ?_ b9 | refine Ext.trans ?_ b8 | refine Ext.trans ?_ b7 | refine Ext.trans ?_ b6 | refine Ext.trans ?_ b5 | refine Ext.trans ?_ b4 | refine Ext.trans ?_ b3 | refine Ext.trans ?_ b2 | refine Ext.trans ?_ b1)))).cells
              refine wpAnyH_ready (rs := [6]) (by kernel_rfl) (by simp) ?_
              refine AllReadyH.cons (o := _) rfl (fun K hK => ?_) AllReadyH.nil
              go_simp
              refine hK.out _ _ (⟨(D3.out.ext (show Ext w11 w15 from (by repeat (first | exact Ext.refl _ | refine Ext.trans ?_ (Ext.alloc _ _) | refine Ext.trans ?_ (drew_ext _) | refine Ext.trans ?_ ba | refine Ext.trans ?_ b40 | refine Ext.trans ?_ b39 | refine Ext.trans ?_ b38 | refine Ext.trans ?_ b37 | refine Ext.trans ?_ b36 | refine Ext.trans ?_ b35 | refine Ext.trans ?_ b34 | refine Ext.trans ?_ b33 | refine Ext.trans ?_ b32 | refine Ext.trans ?_ b31 | refine Ext.trans ?_ b30 | refine Ext.trans ?_ b29 | refine Ext.trans ?_ b28 | refine Ext.trans ?_ b27 | refine Ext.trans ?_ b26 | refine Ext.trans ?_ b25 | refine Ext.trans ?_ b24 | refine Ext.trans ?_ b23 | refine Ext.trans ?_ b22 | refine Ext.trans ?_ b21 | refine Ext.trans ?_ b20 | refine Ext.trans ?_ b19 | refine Ext.trans ?_ b18 | refine Ext.trans ?_ b17 | refine Ext.trans ?_ b16 | refine Ext.trans ?_ b15 | refine Ext.trans ?_ b14 | refine Ext.trans ?_ b13 | refine Ext.trans ?_ b12 | refine Ext.trans ?_ b11 | refine Ext.trans ?_ b10 | refine Ext.trans ?_ b9 | refine Ext.trans ?_ b8 | refine Ext.trans ?_ b7 | refine Ext.trans ?_ b6 | refine Ext.trans ?_ b5 | refine Ext.trans ?_ b4 | refine Ext.trans ?_ b3 | refine Ext.trans ?_ b2 | refine Ext.trans ?_ b1)))).put (c := w13.heap.size) (by have := hsz.out; have := hsq.out; omega) _ _ _, (D5.out.ext (show Ext w11 w15 from (by repeat (first | exact Ext.refl _ | refine Ext.trans ?_ (Ext.alloc _ _) | refine Ext.trans ?_ (drew_ext _) | refine Ext.trans ?_ ba | refine Ext.trans ?_ b40 | refine Ext.trans ?_ b39 | refine Ext.trans ?_ b38 | refine Ext.trans ?_ b37 | refine Ext.trans ?_ b36 | refine Ext.trans ?_ b35 | refine Ext.trans ?_ b34 | refine Ext.trans ?_ b33 | refine Ext.trans ?_ b32 | refine Ext.trans ?_ b31 | refine Ext.trans ?_ b30 | refine Ext.trans ?_ b29 | refine Ext.trans ?_ b28 | refine Ext.trans ?_ b27 | refine Ext.trans ?_ b26 | refine Ext.trans ?_ b25 | refine Ext.trans ?_ b24 | refine Ext.trans ?_ b23 | refine Ext.trans ?_ b22 | refine Ext.trans ?_ b21 | refine Ext.trans ?_ b20 | refine Ext.trans ?_ b19 | refine Ext.trans ?_ b18 | refine Ext.trans ?_ b17 | refine Ext.trans ?_ b16 | refine Ext.trans ?_ b15 | refine Ext.trans ?_ b14 | refine Ext.trans ?_ b13 | refine Ext.trans ?_ b12 | refine Ext.trans ?_ b11 | refine Ext.trans ?_ b10 | refine Ext.trans ?_ b9 | refine Ext.trans ?_ b8 | refine Ext.trans ?_ b7 | refine Ext.trans ?_ b6 | refine Ext.trans ?_ b5 | refine Ext.trans ?_ b4 | refine Ext.trans ?_ b3 | refine Ext.trans ?_ b2 | refine Ext.trans ?_ b1)))).put (c := w13.heap.size) (by have := hsz.out; have := hsq.out; omega) _ _ _⟩) (fun hHeld => ?_)
              clear hK K
              try simp only [Act.put, List.getElem_toArray, List.getElem_cons_succ, List.getElem_cons_zero, List.setIfInBounds_toArray, List.set_cons_zero, List.set_cons_succ]
              refine wpAnyH_done (by kernel_rfl) ?_ _
              refine NoPanic.normal ?_
              have hd11 : w11.drew.heap.size = w11.heap.size := rfl
              have h13 := b13.size
              have h14 := b14.size
              have h15 := b15.size
              have ha := ba.size
              have hda : wa.drew.heap.size = wa.heap.size := rfl
              go_wp2_with fail
              go_meet
              exact ⟨put3_below (by repeat (first | exact Ext.refl _ | refine Ext.trans ?_ (Ext.alloc _ _) | refine Ext.trans ?_ (drew_ext _) | refine Ext.trans ?_ ba | refine Ext.trans ?_ b40 | refine Ext.trans ?_ b39 | refine Ext.trans ?_ b38 | refine Ext.trans ?_ b37 | refine Ext.trans ?_ b36 | refine Ext.trans ?_ b35 | refine Ext.trans ?_ b34 | refine Ext.trans ?_ b33 | refine Ext.trans ?_ b32 | refine Ext.trans ?_ b31 | refine Ext.trans ?_ b30 | refine Ext.trans ?_ b29 | refine Ext.trans ?_ b28 | refine Ext.trans ?_ b27 | refine Ext.trans ?_ b26 | refine Ext.trans ?_ b25 | refine Ext.trans ?_ b24 | refine Ext.trans ?_ b23 | refine Ext.trans ?_ b22 | refine Ext.trans ?_ b21 | refine Ext.trans ?_ b20 | refine Ext.trans ?_ b19 | refine Ext.trans ?_ b18 | refine Ext.trans ?_ b17 | refine Ext.trans ?_ b16 | refine Ext.trans ?_ b15 | refine Ext.trans ?_ b14 | refine Ext.trans ?_ b13 | refine Ext.trans ?_ b12 | refine Ext.trans ?_ b11 | refine Ext.trans ?_ b10 | refine Ext.trans ?_ b9 | refine Ext.trans ?_ b8 | refine Ext.trans ?_ b7 | refine Ext.trans ?_ b6 | refine Ext.trans ?_ b5 | refine Ext.trans ?_ b4 | refine Ext.trans ?_ b3 | refine Ext.trans ?_ b2 | refine Ext.trans ?_ b1)) hsz.out _ _ _, _, _, _, _, _, _, _, _, rfl, Box3.put_at (RA.out.ext (by repeat (first | exact Ext.refl _ | refine Ext.trans ?_ (Ext.alloc _ _) | refine Ext.trans ?_ (drew_ext _) | refine Ext.trans ?_ ba | refine Ext.trans ?_ b40 | refine Ext.trans ?_ b39 | refine Ext.trans ?_ b38 | refine Ext.trans ?_ b37 | refine Ext.trans ?_ b36 | refine Ext.trans ?_ b35 | refine Ext.trans ?_ b34 | refine Ext.trans ?_ b33 | refine Ext.trans ?_ b32 | refine Ext.trans ?_ b31 | refine Ext.trans ?_ b30 | refine Ext.trans ?_ b29 | refine Ext.trans ?_ b28 | refine Ext.trans ?_ b27 | refine Ext.trans ?_ b26 | refine Ext.trans ?_ b25 | refine Ext.trans ?_ b24 | refine Ext.trans ?_ b23 | refine Ext.trans ?_ b22 | refine Ext.trans ?_ b21 | refine Ext.trans ?_ b20 | refine Ext.trans ?_ b19 | refine Ext.trans ?_ b18 | refine Ext.trans ?_ b17 | refine Ext.trans ?_ b16 | refine Ext.trans ?_ b15 | refine Ext.trans ?_ b14 | refine Ext.trans ?_ b13 | refine Ext.trans ?_ b12 | refine Ext.trans ?_ b11 | refine Ext.trans ?_ b10 | refine Ext.trans ?_ b9 | refine Ext.trans ?_ b8 | refine Ext.trans ?_ b7 | refine Ext.trans ?_ b6 | refine Ext.trans ?_ b5 | refine Ext.trans ?_ b4 | refine Ext.trans ?_ b3 | refine Ext.trans ?_ b2 | refine Ext.trans ?_ b1))) _ _ _, _, _, rfl, (ON15.out.put_new (by repeat (first | exact Ext.refl _ | refine Ext.trans ?_ (Ext.alloc _ _) | refine Ext.trans ?_ (drew_ext _) | refine Ext.trans ?_ ba | refine Ext.trans ?_ b40 | refine Ext.trans ?_ b39 | refine Ext.trans ?_ b38 | refine Ext.trans ?_ b37 | refine Ext.trans ?_ b36 | refine Ext.trans ?_ b35 | refine Ext.trans ?_ b34 | refine Ext.trans ?_ b33 | refine Ext.trans ?_ b32 | refine Ext.trans ?_ b31 | refine Ext.trans ?_ b30 | refine Ext.trans ?_ b29 | refine Ext.trans ?_ b28 | refine Ext.trans ?_ b27 | refine Ext.trans ?_ b26 | refine Ext.trans ?_ b25 | refine Ext.trans ?_ b24 | refine Ext.trans ?_ b23 | refine Ext.trans ?_ b22 | refine Ext.trans ?_ b21 | refine Ext.trans ?_ b20 | refine Ext.trans ?_ b19 | refine Ext.trans ?_ b18 | refine Ext.trans ?_ b17 | refine Ext.trans ?_ b16 | refine Ext.trans ?_ b15 | refine Ext.trans ?_ b14 | refine Ext.trans ?_ b13 | refine Ext.trans ?_ b12 | refine Ext.trans ?_ b11 | refine Ext.trans ?_ b10 | refine Ext.trans ?_ b9 | refine Ext.trans ?_ b8 | refine Ext.trans ?_ b7 | refine Ext.trans ?_ b6 | refine Ext.trans ?_ b5 | refine Ext.trans ?_ b4 | refine Ext.trans ?_ b3 | refine Ext.trans ?_ b2 | refine Ext.trans ?_ b1)) (by omega) _ _ _).rd, (OD15.out.put_new (by repeat (first | exact Ext.refl _ | refine Ext.trans ?_ (Ext.alloc _ _) | refine Ext.trans ?_ (drew_ext _) | refine Ext.trans ?_ ba | refine Ext.trans ?_ b40 | refine Ext.trans ?_ b39 | refine Ext.trans ?_ b38 | refine Ext.trans ?_ b37 | refine Ext.trans ?_ b36 | refine Ext.trans ?_ b35 | refine Ext.trans ?_ b34 | refine Ext.trans ?_ b33 | refine Ext.trans ?_ b32 | refine Ext.trans ?_ b31 | refine Ext.trans ?_ b30 | refine Ext.trans ?_ b29 | refine Ext.trans ?_ b28 | refine Ext.trans ?_ b27 | refine Ext.trans ?_ b26 | refine Ext.trans ?_ b25 | refine Ext.trans ?_ b24 | refine Ext.trans ?_ b23 | refine Ext.trans ?_ b22 | refine Ext.trans ?_ b21 | refine Ext.trans ?_ b20 | refine Ext.trans ?_ b19 | refine Ext.trans ?_ b18 | refine Ext.trans ?_ b17 | refine Ext.trans ?_ b16 | refine Ext.trans ?_ b15 | refine Ext.trans ?_ b14 | refine Ext.trans ?_ b13 | refine Ext.trans ?_ b12 | refine Ext.trans ?_ b11 | refine Ext.trans ?_ b10 | refine Ext.trans ?_ b9 | refine Ext.trans ?_ b8 | refine Ext.trans ?_ b7 | refine Ext.trans ?_ b6 | refine Ext.trans ?_ b5 | refine Ext.trans ?_ b4 | refine Ext.trans ?_ b3 | refine Ext.trans ?_ b2 | refine Ext.trans ?_ b1)) (by omega) _ _ _).rd⟩
          · skip
            go_simp
            refine hK.out _ _ (⟨D3.out.ext (by repeat (first | exact Ext.refl _ | refine Ext.trans ?_ (Ext.alloc _ _) | refine Ext.trans ?_ (drew_ext _) | refine Ext.trans ?_ ba | refine Ext.trans ?_ b40 | refine Ext.trans ?_ b39 | refine Ext.trans ?_ b38 | refine Ext.trans ?_ b37 | refine Ext.trans ?_ b36 | refine Ext.trans ?_ b35 | refine Ext.trans ?_ b34 | refine Ext.trans ?_ b33 | refine Ext.trans ?_ b32 | refine Ext.trans ?_ b31 | refine Ext.trans ?_ b30 | refine Ext.trans ?_ b29 | refine Ext.trans ?_ b28 | refine Ext.trans ?_ b27 | refine Ext.trans ?_ b26 | refine Ext.trans ?_ b25 | refine Ext.trans ?_ b24 | refine Ext.trans ?_ b23 | refine Ext.trans ?_ b22 | refine Ext.trans ?_ b21 | refine Ext.trans ?_ b20 | refine Ext.trans ?_ b19 | refine Ext.trans ?_ b18 | refine Ext.trans ?_ b17 | refine Ext.trans ?_ b16 | refine Ext.trans ?_ b15 | refine Ext.trans ?_ b14 | refine Ext.trans ?_ b13 | refine Ext.trans ?_ b12 | refine Ext.trans ?_ b11 | refine Ext.trans ?_ b10 | refine Ext.trans ?_ b9 | refine Ext.trans ?_ b8 | refine Ext.trans ?_ b7 | refine Ext.trans ?_ b6 | refine Ext.trans ?_ b5 | refine Ext.trans ?_ b4 | refine Ext.trans ?_ b3 | refine Ext.trans ?_ b2 | refine Ext.trans ?_ b1)), D5.out.ext (by repeat (first | exact Ext.refl _ | refine Ext.trans ?_ (Ext.alloc _ _) | refine Ext.trans ?_ (drew_ext _) | refine Ext.trans ?_ ba | refine Ext.trans ?_ b40 | refine Ext.trans ?_ b39 | refine Ext.trans ?_ b38 | refine Ext.trans ?_ b37 | refine Ext.trans ?_ b36 | refine Ext.trans ?_ b35 | refine Ext.trans ?_ b34 | refine Ext.trans ?_ b33 | refine Ext.trans ?_ b32 | refine Ext.trans ?_ b31 | refine Ext.trans ?_ b30 | refine Ext.trans ?_ b29 | refine Ext.trans ?_ b28 | refine Ext.trans ?_ b27 | refine Ext.trans ?_ b26 | refine Ext.trans ?_ b25 | refine Ext.trans ?_ b24 | refine Ext.trans ?_ b23 | refine Ext.trans ?_ b22 | refine Ext.trans ?_ b21 | refine Ext.trans ?_ b20 | refine Ext.trans ?_ b19 | refine Ext.trans ?_ b18 | refine Ext.trans ?_ b17 | refine Ext.trans ?_ b16 | refine Ext.trans ?_ b15 | refine Ext.trans ?_ b14 | refine Ext.trans ?_ b13 | refine Ext.trans ?_ b12 | refine Ext.trans ?_ b11 | refine Ext.trans ?_ b10 | refine Ext.trans ?_ b9 | refine Ext.trans ?_ b8 | refine Ext.trans ?_ b7 | refine Ext.trans ?_ b6 | refine Ext.trans ?_ b5 | refine Ext.trans ?_ b4 | refine Ext.trans ?_ b3 | refine Ext.trans ?_ b2 | refine Ext.trans ?_ b1))⟩) (fun hHeld => ?_)
            clear hK K
            try simp only [Act.put, List.getElem_toArray, List.getElem_cons_succ, List.getElem_cons_zero, List.setIfInBounds_toArray, List.set_cons_zero, List.set_cons_succ]
            obtain ⟨wa, hwa, ba, ra, za⟩ := boxR w11 (.bool false) (.slice none 0 0) (.slice none 0 0) 26
            rw [← hwa] at hHeld ⊢
            have RA : Hid (Room3 wa w11.heap.size) := ra
            have hsz : Hid (w11.heap.size ≤ w11.heap.size) := Below.size (by repeat (first | exact Ext.refl _ | refine Ext.trans ?_ (Ext.alloc _ _) | refine Ext.trans ?_ (drew_ext _) | refine Ext.trans ?_ ba | refine Ext.trans ?_ b40 | refine Ext.trans ?_ b39 | refine Ext.trans ?_ b38 | refine Ext.trans ?_ b37 | refine Ext.trans ?_ b36 | refine Ext.trans ?_ b35 | refine Ext.trans ?_ b34 | refine Ext.trans ?_ b33 | refine Ext.trans ?_ b32 | refine Ext.trans ?_ b31 | refine Ext.trans ?_ b30 | refine Ext.trans ?_ b29 | refine Ext.trans ?_ b28 | refine Ext.trans ?_ b27 | refine Ext.trans ?_ b26 | refine Ext.trans ?_ b25 | refine Ext.trans ?_ b24 | refine Ext.trans ?_ b23 | refine Ext.trans ?_ b22 | refine Ext.trans ?_ b21 | refine Ext.trans ?_ b20 | refine Ext.trans ?_ b19 | refine Ext.trans ?_ b18 | refine Ext.trans ?_ b17 | refine Ext.trans ?_ b16 | refine Ext.trans ?_ b15 | refine Ext.trans ?_ b14 | refine Ext.trans ?_ b13 | refine Ext.trans ?_ b12 | refine Ext.trans ?_ b11 | refine Ext.trans ?_ b10 | refine Ext.trans ?_ b9 | refine Ext.trans ?_ b8 | refine Ext.trans ?_ b7 | refine Ext.trans ?_ b6 | refine Ext.trans ?_ b5 | refine Ext.trans ?_ b4 | refine Ext.trans ?_ b3 | refine Ext.trans ?_ b2 | refine Ext.trans ?_ b1))
            have za : wa.heap.size = w11.heap.size + 1 := za
            clear hwa ra
            refine wpAnyH_ready (rs := [1]) (by kernel_rfl) (by simp) ?_
            refine AllReadyH.cons (o := _) rfl (fun K hK => ?_) AllReadyH.nil
            go_simp
            go_at_call 18; refine (rabs_any (RQ11.out.ext (by repeat (first | exact Ext.refl _ | refine Ext.trans ?_ (Ext.alloc _ _) | refine Ext.trans ?_ (drew_ext _) | refine Ext.trans ?_ ba | refine Ext.trans ?_ b40 | refine Ext.trans ?_ b39 | refine Ext.trans ?_ b38 | refine Ext.trans ?_ b37 | refine Ext.trans ?_ b36 | refine Ext.trans ?_ b35 | refine Ext.trans ?_ b34 | refine Ext.trans ?_ b33 | refine Ext.trans ?_ b32 | refine Ext.trans ?_ b31 | refine Ext.trans ?_ b30 | refine Ext.trans ?_ b29 | refine Ext.trans ?_ b28 | refine Ext.trans ?_ b27 | refine Ext.trans ?_ b26 | refine Ext.trans ?_ b25 | refine Ext.trans ?_ b24 | refine Ext.trans ?_ b23 | refine Ext.trans ?_ b22 | refine Ext.trans ?_ b21 | refine Ext.trans ?_ b20 | refine Ext.trans ?_ b19 | refine Ext.trans ?_ b18 | refine Ext.trans ?_ b17 | refine Ext.trans ?_ b16 | refine Ext.trans ?_ b15 | refine Ext.trans ?_ b14 | refine Ext.trans ?_ b13 | refine Ext.trans ?_ b12 | refine Ext.trans ?_ b11 | refine Ext.trans ?_ b10 | refine Ext.trans ?_ b9 | refine Ext.trans ?_ b8 | refine Ext.trans ?_ b7 | refine Ext.trans ?_ b6 | refine Ext.trans ?_ b5 | refine Ext.trans ?_ b4 | refine Ext.trans ?_ b3 | refine Ext.trans ?_ b2 | refine Ext.trans ?_ b1)))).mono ?_; rintro e w13 ⟨v13, rfl, b13, o13⟩; have O13 := Lib.hid o13; clear o13
            go_wp2_with fail
            refine hK.out _ _ (⟨D3.out.ext (by repeat (first | exact Ext.refl _ | refine Ext.trans ?_ (Ext.alloc _ _) | refine Ext.trans ?_ (drew_ext _) | refine Ext.trans ?_ ba | refine Ext.trans ?_ b40 | refine Ext.trans ?_ b39 | refine Ext.trans ?_ b38 | refine Ext.trans ?_ b37 | refine Ext.trans ?_ b36 | refine Ext.trans ?_ b35 | refine Ext.trans ?_ b34 | refine Ext.trans ?_ b33 | refine Ext.trans ?_ b32 | refine Ext.trans ?_ b31 | refine Ext.trans ?_ b30 | refine Ext.trans ?_ b29 | refine Ext.trans ?_ b28 | refine Ext.trans ?_ b27 | refine Ext.trans ?_ b26 | refine Ext.trans ?_ b25 | refine Ext.trans ?_ b24 | refine Ext.trans ?_ b23 | refine Ext.trans ?_ b22 | refine Ext.trans ?_ b21 | refine Ext.trans ?_ b20 | refine Ext.trans ?_ b19 | refine Ext.trans ?_ b18 | refine Ext.trans ?_ b17 | refine Ext.trans ?_ b16 | refine Ext.trans ?_ b15 | refine Ext.trans ?_ b14 | refine Ext.trans ?_ b13 | refine Ext.trans ?_ b12 | refine Ext.trans ?_ b11 | refine Ext.trans ?_ b10 | refine Ext.trans ?_ b9 | refine Ext.trans ?_ b8 | refine Ext.trans ?_ b7 | refine Ext.trans ?_ b6 | refine Ext.trans ?_ b5 | refine Ext.trans ?_ b4 | refine Ext.trans ?_ b3 | refine Ext.trans ?_ b2 | refine Ext.trans ?_ b1)), D5.out.ext (by repeat (first | exact Ext.refl _ | refine Ext.trans ?_ (Ext.alloc _ _) | refine Ext.trans ?_ (drew_ext _) | refine Ext.trans ?_ ba | refine Ext.trans ?_ b40 | refine Ext.trans ?_ b39 | refine Ext.trans ?_ b38 | refine Ext.trans ?_ b37 | refine Ext.trans ?_ b36 | refine Ext.trans ?_ b35 | refine Ext.trans ?_ b34 | refine Ext.trans ?_ b33 | refine Ext.trans ?_ b32 | refine Ext.trans ?_ b31 | refine Ext.trans ?_ b30 | refine Ext.trans ?_ b29 | refine Ext.trans ?_ b28 | refine Ext.trans ?_ b27 | refine Ext.trans ?_ b26 | refine Ext.trans ?_ b25 | refine Ext.trans ?_ b24 | refine Ext.trans ?_ b23 | refine Ext.trans ?_ b22 | refine Ext.trans ?_ b21 | refine Ext.trans ?_ b20 | refine Ext.trans ?_ b19 | refine Ext.trans ?_ b18 | refine Ext.trans ?_ b17 | refine Ext.trans ?_ b16 | refine Ext.trans ?_ b15 | refine Ext.trans ?_ b14 | refine Ext.trans ?_ b13 | refine Ext.trans ?_ b12 | refine Ext.trans ?_ b11 | refine Ext.trans ?_ b10 | refine Ext.trans ?_ b9 | refine Ext.trans ?_ b8 | refine Ext.trans ?_ b7 | refine Ext.trans ?_ b6 | refine Ext.trans ?_ b5 | refine Ext.trans ?_ b4 | refine Ext.trans ?_ b3 | refine Ext.trans ?_ b2 | refine Ext.trans ?_ b1))⟩) (fun hHeld => ?_)
            clear hK K
            try simp only [Act.put, List.getElem_toArray, List.getElem_cons_succ, List.getElem_cons_zero, List.setIfInBounds_toArray, List.set_cons_zero, List.set_cons_succ]
            refine wpAnyH_ready (rs := [3]) (by kernel_rfl) (by simp) ?_
            refine AllReadyH.cons (o := _) rfl (fun K hK => ?_) AllReadyH.nil
            go_simp
            go_at_call 18; refine (rabs_any (RD11.out.ext (by repeat (first | exact Ext.refl _ | refine Ext.trans ?_ (Ext.alloc _ _) | refine Ext.trans ?_ (drew_ext _) | refine Ext.trans ?_ ba | refine Ext.trans ?_ b40 | refine Ext.trans ?_ b39 | refine Ext.trans ?_ b38 | refine Ext.trans ?_ b37 | refine Ext.trans ?_ b36 | refine Ext.trans ?_ b35 | refine Ext.trans ?_ b34 | refine Ext.trans ?_ b33 | refine Ext.trans ?_ b32 | refine Ext.trans ?_ b31 | refine Ext.trans ?_ b30 | refine Ext.trans ?_ b29 | refine Ext.trans ?_ b28 | refine Ext.trans ?_ b27 | refine Ext.trans ?_ b26 | refine Ext.trans ?_ b25 | refine Ext.trans ?_ b24 | refine Ext.trans ?_ b23 | refine Ext.trans ?_ b22 | refine Ext.trans ?_ b21 | refine Ext.trans ?_ b20 | refine Ext.trans ?_ b19 | refine Ext.trans ?_ b18 | refine Ext.trans ?_ b17 | refine Ext.trans ?_ b16 | refine Ext.trans ?_ b15 | refine Ext.trans ?_ b14 | refine Ext.trans ?_ b13 | refine Ext.trans ?_ b12 | refine Ext.trans ?_ b11 | refine Ext.trans ?_ b10 | refine Ext.trans ?_ b9 | refine Ext.trans ?_ b8 | refine Ext.trans ?_ b7 | refine Ext.trans ?_ b6 | refine Ext.trans ?_ b5 | refine Ext.trans ?_ b4 | refine Ext.trans ?_ b3 | refine Ext.trans ?_ b2 | refine Ext.trans ?_ b1)))).mono ?_; rintro e w14 ⟨v14, rfl, b14, o14⟩; have O14 := Lib.hid o14; clear o14
            go_wp2_with fail
            refine hK.out _ _ (⟨D3.out.ext (by repeat (first | exact Ext.refl _ | refine Ext.trans ?_ (Ext.alloc _ _) | refine Ext.trans ?_ (drew_ext _) | refine Ext.trans ?_ ba | refine Ext.trans ?_ b40 | refine Ext.trans ?_ b39 | refine Ext.trans ?_ b38 | refine Ext.trans ?_ b37 | refine Ext.trans ?_ b36 | refine Ext.trans ?_ b35 | refine Ext.trans ?_ b34 | refine Ext.trans ?_ b33 | refine Ext.trans ?_ b32 | refine Ext.trans ?_ b31 | refine Ext.trans ?_ b30 | refine Ext.trans ?_ b29 | refine Ext.trans ?_ b28 | refine Ext.trans ?_ b27 | refine Ext.trans ?_ b26 | refine Ext.trans ?_ b25 | refine Ext.trans ?_ b24 | refine Ext.trans ?_ b23 | refine Ext.trans ?_ b22 | refine Ext.trans ?_ b21 | refine Ext.trans ?_ b20 | refine Ext.trans ?_ b19 | refine Ext.trans ?_ b18 | refine Ext.trans ?_ b17 | refine Ext.trans ?_ b16 | refine Ext.trans ?_ b15 | refine Ext.trans ?_ b14 | refine Ext.trans ?_ b13 | refine Ext.trans ?_ b12 | refine Ext.trans ?_ b11 | refine Ext.trans ?_ b10 | refine Ext.trans ?_ b9 | refine Ext.trans ?_ b8 | refine Ext.trans ?_ b7 | refine Ext.trans ?_ b6 | refine Ext.trans ?_ b5 | refine Ext.trans ?_ b4 | refine Ext.trans ?_ b3 | refine Ext.trans ?_ b2 | refine Ext.trans ?_ b1)), D5.out.ext (by repeat (first | exact Ext.refl _ | refine Ext.trans ?_ (Ext.alloc _ _) | refine Ext.trans ?_ (drew_ext _) | refine Ext.trans ?_ ba | refine Ext.trans ?_ b40 | refine Ext.trans ?_ b39 | refine Ext.trans ?_ b38 | refine Ext.trans ?_ b37 | refine Ext.trans ?_ b36 | refine Ext.trans ?_ b35 | refine Ext.trans ?_ b34 | refine Ext.trans ?_ b33 | refine Ext.trans ?_ b32 | refine Ext.trans ?_ b31 | refine Ext.trans ?_ b30 | refine Ext.trans ?_ b29 | refine Ext.trans ?_ b28 | refine Ext.trans ?_ b27 | refine Ext.trans ?_ b26 | refine Ext.trans ?_ b25 | refine Ext.trans ?_ b24 | refine Ext.trans ?_ b23 | refine Ext.trans ?_ b22 | refine Ext.trans ?_ b21 | refine Ext.trans ?_ b20 | refine Ext.trans ?_ b19 | refine Ext.trans ?_ b18 | refine Ext.trans ?_ b17 | refine Ext.trans ?_ b16 | refine Ext.trans ?_ b15 | refine Ext.trans ?_ b14 | refine Ext.trans ?_ b13 | refine Ext.trans ?_ b12 | refine Ext.trans ?_ b11 | refine Ext.trans ?_ b10 | refine Ext.trans ?_ b9 | refine Ext.trans ?_ b8 | refine Ext.trans ?_ b7 | refine Ext.trans ?_ b6 | refine Ext.trans ?_ b5 | refine Ext.trans ?_ b4 | refine Ext.trans ?_ b3 | refine Ext.trans ?_ b2 | refine Ext.trans ?_ b1))⟩) (fun hHeld => ?_)
            clear hK K
            try simp only [Act.put, List.getElem_toArray, List.getElem_cons_succ, List.getElem_cons_zero, List.setIfInBounds_toArray, List.set_cons_zero, List.set_cons_succ]
            refine wpAnyH_ready (rs := [4]) (by kernel_rfl) (by simp) ?_
            refine AllReadyH.cons (o := _) rfl (fun K hK => ?_) AllReadyH.nil
            go_simp
            go_at_call 17; refine (HSUB.out _ _ _ (O13.out.ext (by repeat (first | exact Ext.refl _ | refine Ext.trans ?_ (Ext.alloc _ _) | refine Ext.trans ?_ (drew_ext _) | refine Ext.trans ?_ ba | refine Ext.trans ?_ b40 | refine Ext.trans ?_ b39 | refine Ext.trans ?_ b38 | refine Ext.trans ?_ b37 | refine Ext.trans ?_ b36 | refine Ext.trans ?_ b35 | refine Ext.trans ?_ b34 | refine Ext.trans ?_ b33 | refine Ext.trans ?_ b32 | refine Ext.trans ?_ b31 | refine Ext.trans ?_ b30 | refine Ext.trans ?_ b29 | refine Ext.trans ?_ b28 | refine Ext.trans ?_ b27 | refine Ext.trans ?_ b26 | refine Ext.trans ?_ b25 | refine Ext.trans ?_ b24 | refine Ext.trans ?_ b23 | refine Ext.trans ?_ b22 | refine Ext.trans ?_ b21 | refine Ext.trans ?_ b20 | refine Ext.trans ?_ b19 | refine Ext.trans ?_ b18 | refine Ext.trans ?_ b17 | refine Ext.trans ?_ b16 | refine Ext.trans ?_ b15 | refine Ext.trans ?_ b14 | refine Ext.trans ?_ b13 | refine Ext.trans ?_ b12 | refine Ext.trans ?_ b11 | refine Ext.trans ?_ b10 | refine Ext.trans ?_ b9 | refine Ext.trans ?_ b8 | refine Ext.trans ?_ b7 | refine Ext.trans ?_ b6 | refine Ext.trans ?_ b5 | refine Ext.trans ?_ b4 | refine Ext.trans ?_ b3 | refine Ext.trans ?_ b2 | refine Ext.trans ?_ b1))) (O14.out.ext (by repeat (first | exact Ext.refl _ | refine Ext.trans ?_ (Ext.alloc _ _) | refine Ext.trans ?_ (drew_ext _) | refine Ext.trans ?_ ba | refine Ext.trans ?_ b40 | refine Ext.trans ?_ b39 | refine Ext.trans ?_ b38 | refine Ext.trans ?_ b37 | refine Ext.trans ?_ b36 | refine Ext.trans ?_ b35 | refine Ext.trans ?_ b34 | refine Ext.trans ?_ b33 | refine Ext.trans ?_ b32 | refine Ext.trans ?_ b31 | refine Ext.trans ?_ b30 | refine Ext.trans ?_ b29 | refine Ext.trans ?_ b28 | refine Ext.trans ?_ b27 | refine Ext.trans ?_ b26 | refine Ext.trans ?_ b25 | refine Ext.trans ?_ b24 | refine Ext.trans ?_ b23 | refine Ext.trans ?_ b22 | refine Ext.trans ?_ b21 | refine Ext.trans ?_ b20 | refine Ext.trans ?_ b19 | refine Ext.trans ?_ b18 | refine Ext.trans ?_ b17 | refine Ext.trans ?_ b16 | refine Ext.trans ?_ b15 | refine Ext.trans ?_ b14 | refine Ext.trans ?_ b13 | refine Ext.trans ?_ b12 | refine Ext.trans ?_ b11 | refine Ext.trans ?_ b10 | refine Ext.trans ?_ b9 | refine Ext.trans ?_ b8 | refine Ext.trans ?_ b7 | refine Ext.trans ?_ b6 | refine Ext.trans ?_ b5 | refine Ext.trans ?_ b4 | refine Ext.trans ?_ b3 | refine Ext.trans ?_ b2 | refine Ext.trans ?_ b1)))).mono ?_; rintro e w15 ⟨_, rfl, b15, n15, d15, rfl, on15, od15⟩; have ON15 := Lib.hid on15; have OD15 := Lib.hid od15; clear on15 od15; obtain ⟨an15, cn15, rfl, -, -, -, -⟩ := ON15.out.rd.1.shape; obtain ⟨ad15, cd15, rfl, -, -, -, -⟩ := OD15.out.rd.1.shape
            go_wp2_with fail
            refine hK.out _ _ (⟨D3.out.ext (by repeat (first | exact Ext.refl _ | refine Ext.trans ?_ (Ext.alloc _ _) | refine Ext.trans ?_ (drew_ext _) | refine Ext.trans ?_ ba | refine Ext.trans ?_ b40 | refine Ext.trans ?_ b39 | refine Ext.trans ?_ b38 | refine Ext.trans ?_ b37 | refine Ext.trans ?_ b36 | refine Ext.trans ?_ b35 | refine Ext.trans ?_ b34 | refine Ext.trans ?_ b33 | refine Ext.trans ?_ b32 | refine Ext.trans ?_ b31 | refine Ext.trans ?_ b30 | refine Ext.trans ?_ b29 | refine Ext.trans ?_ b28 | refine Ext.trans ?_ b27 | refine Ext.trans ?_ b26 | refine Ext.trans ?_ b25 | refine Ext.trans ?_ b24 | refine Ext.trans ?_ b23 | refine Ext.trans ?_ b22 | refine Ext.trans ?_ b21 | refine Ext.trans ?_ b20 | refine Ext.trans ?_ b19 | refine Ext.trans ?_ b18 | refine Ext.trans ?_ b17 | refine Ext.trans ?_ b16 | refine Ext.trans ?_ b15 | refine Ext.trans ?_ b14 | refine Ext.trans ?_ b13 | refine Ext.trans ?_ b12 | refine Ext.trans ?_ b11 | refine Ext.trans ?_ b10 | refine Ext.trans ?_ b9 | refine Ext.trans ?_ b8 | refine Ext.trans ?_ b7 | refine Ext.trans ?_ b6 | refine Ext.trans ?_ b5 | refine Ext.trans ?_ b4 | refine Ext.trans ?_ b3 | refine Ext.trans ?_ b2 | refine Ext.trans ?_ b1)), D5.out.ext (by repeat (first | exact Ext.refl _ | refine Ext.trans ?_ (Ext.alloc _ _) | refine Ext.trans ?_ (drew_ext _) | refine Ext.trans ?_ ba | refine Ext.trans ?_ b40 | refine Ext.trans ?_ b39 | refine Ext.trans ?_ b38 | refine Ext.trans ?_ b37 | refine Ext.trans ?_ b36 | refine Ext.trans ?_ b35 | refine Ext.trans ?_ b34 | refine Ext.trans ?_ b33 | refine Ext.trans ?_ b32 | refine Ext.trans ?_ b31 | refine Ext.trans ?_ b30 | refine Ext.trans ?_ b29 | refine Ext.trans ?_ b28 | refine Ext.trans ?_ b27 | refine Ext.trans ?_ b26 | refine Ext.trans ?_ b25 | refine Ext.trans ?_ b24 | refine Ext.trans ?_ b23 | refine Ext.trans ?_ b22 | refine Ext.trans ?_ b21 | refine Ext.trans ?_ b20 | refine Ext.trans ?_ b19 | refine Ext.trans ?_ b18 | refine Ext.trans ?_ b17 | refine Ext.trans ?_ b16 | refine Ext.trans ?_ b15 | refine Ext.trans ?_ b14 | refine Ext.trans ?_ b13 | refine Ext.trans ?_ b12 | refine Ext.trans ?_ b11 | refine Ext.trans ?_ b10 | refine Ext.trans ?_ b9 | refine Ext.trans ?_ b8 | refine Ext.trans ?_ b7 | refine Ext.trans ?_ b6 | refine Ext.trans ?_ b5 | refine Ext.trans ?_ b4 | refine Ext.trans ?_ b3 | refine Ext.trans ?_ b2 | refine Ext.trans ?_ b1))⟩) (fun hHeld => ?_)
            clear hK K
            try simp only [Act.put, List.getElem_toArray, List.getElem_cons_succ, List.getElem_cons_zero, List.setIfInBounds_toArray, List.set_cons_zero, List.set_cons_succ]
            obtain ⟨_, _, _, j0, j1, j2, g0, g1, g2⟩ := (RA.out.ext (show Ext wa w15 from (by repeat (first | exact Ext.refl _ | refine Ext.trans ?_ (Ext.alloc _ _) | refine Ext.trans ?_ (drew_ext _) | refine Ext.trans ?_ ba | refine Ext.trans ?_ b40 | refine Ext.trans ?_ b39 | refine Ext.trans ?_ b38 | refine Ext.trans ?_ b37 | refine Ext.trans ?_ b36 | refine Ext.trans ?_ b35 | refine Ext.trans ?_ b34 | refine Ext.trans ?_ b33 | refine Ext.trans ?_ b32 | refine Ext.trans ?_ b31 | refine Ext.trans ?_ b30 | refine Ext.trans ?_ b29 | refine Ext.trans ?_ b28 | refine Ext.trans ?_ b27 | refine Ext.trans ?_ b26 | refine Ext.trans ?_ b25 | refine Ext.trans ?_ b24 | refine Ext.trans ?_ b23 | refine Ext.trans ?_ b22 | refine Ext.trans ?_ b21 | refine Ext.trans ?_ b20 | refine Ext.trans ?_ b19 | refine Ext.trans ?_ b18 | refine Ext.trans ?_ b17 | refine Ext.trans ?_ b16 | refine Ext.trans ?_ b15 | refine Ext.trans ?_ b14 | refine Ext.trans ?_ b13 | refine Ext.trans ?_ b12 | refine Ext.trans ?_ b11 | refine Ext.trans ?_ b10 | refine Ext.trans ?_ b9 | refine Ext.trans ?_ b8 | refine Ext.trans ?_ b7 | refine Ext.trans ?_ b6 | refine Ext.trans ?_ b5 | refine Ext.trans ?_ b4 | refine Ext.trans ?_ b3 | refine Ext.trans ?_ b2 | refine Ext.trans ?_ b1)))).cells
            refine wpAnyH_ready (rs := [6]) (by kernel_rfl) (by simp) ?_
            refine AllReadyH.cons (o := _) rfl (fun K hK => ?_) AllReadyH.nil
            go_simp
            refine hK.out _ _ (⟨(D3.out.ext (show Ext w11 w15 from (by repeat (first | exact Ext.refl _ | refine Ext.trans ?_ (Ext.alloc _ _) | refine Ext.trans ?_ (drew_ext _) | refine Ext.trans ?_ ba | refine Ext.trans ?_ b40 | refine Ext.trans ?_ b39 | refine Ext.trans ?_ b38 | refine Ext.trans ?_ b37 | refine Ext.trans ?_ b36 | refine Ext.trans ?_ b35 | refine Ext.trans ?_ b34 | refine Ext.trans ?_ b33 | refine Ext.trans ?_ b32 | refine Ext.trans ?_ b31 | refine Ext.trans ?_ b30 | refine Ext.trans ?_ b29 | refine Ext.trans ?_ b28 | refine Ext.trans ?_ b27 | refine Ext.trans ?_ b26 | refine Ext.trans ?_ b25 | refine Ext.trans ?_ b24 | refine Ext.trans ?_ b23 | refine Ext.trans ?_ b22 | refine Ext.trans ?_ b21 | refine Ext.trans ?_ b20 | refine Ext.trans ?_ b19 | refine Ext.trans ?_ b18 | refine Ext.trans ?_ b17 | refine Ext.trans ?_ b16 | refine Ext.trans ?_ b15 | refine Ext.trans ?_ b14 | refine Ext.trans ?_ b13 | refine Ext.trans ?_ b12 | refine Ext.trans ?_ b11 | refine Ext.trans ?_ b10 | refine Ext.trans ?_ b9 | refine Ext.trans ?_ b8 | refine Ext.trans ?_ b7 | refine Ext.trans ?_ b6 | refine Ext.trans ?_ b5 | refine Ext.trans ?_ b4 | refine Ext.trans ?_ b3 | refine Ext.trans ?_ b2 | refine Ext.trans ?_ b1)))).put (c := w11.heap.size) (by have := hsz.out; have := hsq.out; omega) _ _ _, (D5.out.ext (show Ext w11 w15 from (by repeat (first | exact Ext.refl _ | refine Ext.trans ?_ (Ext.alloc _ _) | refine Ext.trans ?_ (drew_ext _) | refine Ext.trans ?_ ba | refine Ext.trans ?_ b40 | refine Ext.trans ?_ b39 | refine Ext.trans ?_ b38 | refine Ext.trans ?_ b37 | refine Ext.trans ?_ b36 | refine Ext.trans ?_ b35 | refine Ext.trans ?_ b34 | refine Ext.trans ?_ b33 | refine Ext.trans ?_ b32 | refine Ext.trans ?_ b31 | refine Ext.trans ?_ b30 | refine Ext.trans ?_ b29 | refine Ext.trans ?_ b28 | refine Ext.trans ?_ b27 | refine Ext.trans ?_ b26 | refine Ext.trans ?_ b25 | refine Ext.trans ?_ b24 | refine Ext.trans ?_ b23 | refine Ext.trans ?_ b22 | refine Ext.trans ?_ b21 | refine Ext.trans ?_ b20 | refine Ext.trans ?_ b19 | refine Ext.trans ?_ b18 | refine Ext.trans ?_ b17 | refine Ext.trans ?_ b16 | refine Ext.trans ?_ b15 | refine Ext.trans ?_ b14 | refine Ext.trans ?_ b13 | refine Ext.trans ?_ b12 | refine Ext.trans ?_ b11 | refine Ext.trans ?_ b10 | refine Ext.trans ?_ b9 | refine Ext.trans ?_ b8 | refine Ext.trans ?_ b7 | refine Ext.trans ?_ b6 | refine Ext.trans ?_ b5 | refine Ext.trans ?_ b4 | refine Ext.trans ?_ b3 | refine Ext.trans ?_ b2 | refine Ext.trans ?_ b1)))).put (c := w11.heap.size) (by have := hsz.out; have := hsq.out; omega) _ _ _⟩) (fun hHeld => ?_)
            clear hK K
            try simp only [Act.put, List.getElem_toArray, List.getElem_cons_succ, List.getElem_cons_zero, List.setIfInBounds_toArray, List.set_cons_zero, List.set_cons_succ]
            refine wpAnyH_done (by kernel_rfl) ?_ _
            refine NoPanic.normal ?_
            have hd11 : w11.drew.heap.size = w11.heap.size := rfl
            have h13 := b13.size
            have h14 := b14.size
            have h15 := b15.size
            have ha := ba.size
            have hda : wa.drew.heap.size = wa.heap.size := rfl
            go_wp2_with fail
            go_meet
            exact ⟨put3_below (by repeat (first | exact Ext.refl _ | refine Ext.trans ?_ (Ext.alloc _ _) | refine Ext.trans ?_ (drew_ext _) | refine Ext.trans ?_ ba | refine Ext.trans ?_ b40 | refine Ext.trans ?_ b39 | refine Ext.trans ?_ b38 | refine Ext.trans ?_ b37 | refine Ext.trans ?_ b36 | refine Ext.trans ?_ b35 | refine Ext.trans ?_ b34 | refine Ext.trans ?_ b33 | refine Ext.trans ?_ b32 | refine Ext.trans ?_ b31 | refine Ext.trans ?_ b30 | refine Ext.trans ?_ b29 | refine Ext.trans ?_ b28 | refine Ext.trans ?_ b27 | refine Ext.trans ?_ b26 | refine Ext.trans ?_ b25 | refine Ext.trans ?_ b24 | refine Ext.trans ?_ b23 | refine Ext.trans ?_ b22 | refine Ext.trans ?_ b21 | refine Ext.trans ?_ b20 | refine Ext.trans ?_ b19 | refine Ext.trans ?_ b18 | refine Ext.trans ?_ b17 | refine Ext.trans ?_ b16 | refine Ext.trans ?_ b15 | refine Ext.trans ?_ b14 | refine Ext.trans ?_ b13 | refine Ext.trans ?_ b12 | refine Ext.trans ?_ b11 | refine Ext.trans ?_ b10 | refine Ext.trans ?_ b9 | refine Ext.trans ?_ b8 | refine Ext.trans ?_ b7 | refine Ext.trans ?_ b6 | refine Ext.trans ?_ b5 | refine Ext.trans ?_ b4 | refine Ext.trans ?_ b3 | refine Ext.trans ?_ b2 | refine Ext.trans ?_ b1)) hsz.out _ _ _, _, _, _, _, _, _, _, _, rfl, Box3.put_at (RA.out.ext (by repeat (first | exact Ext.refl _ | refine Ext.trans ?_ (Ext.alloc _ _) | refine Ext.trans ?_ (drew_ext _) | refine Ext.trans ?_ ba | refine Ext.trans ?_ b40 | refine Ext.trans ?_ b39 | refine Ext.trans ?_ b38 | refine Ext.trans ?_ b37 | refine Ext.trans ?_ b36 | refine Ext.trans ?_ b35 | refine Ext.trans ?_ b34 | refine Ext.trans ?_ b33 | refine Ext.trans ?_ b32 | refine Ext.trans ?_ b31 | refine Ext.trans ?_ b30 | refine Ext.trans ?_ b29 | refine Ext.trans ?_ b28 | refine Ext.trans ?_ b27 | refine Ext.trans ?_ b26 | refine Ext.trans ?_ b25 | refine Ext.trans ?_ b24 | refine Ext.trans ?_ b23 | refine Ext.trans ?_ b22 | refine Ext.trans ?_ b21 | refine Ext.trans ?_ b20 | refine Ext.trans ?_ b19 | refine Ext.trans ?_ b18 | refine Ext.trans ?_ b17 | refine Ext.trans ?_ b16 | refine Ext.trans ?_ b15 | refine Ext.trans ?_ b14 | refine Ext.trans ?_ b13 | refine Ext.trans ?_ b12 | refine Ext.trans ?_ b11 | refine Ext.trans ?_ b10 | refine Ext.trans ?_ b9 | refine Ext.trans ?_ b8 | refine Ext.trans ?_ b7 | refine Ext.trans ?_ b6 | refine Ext.trans ?_ b5 | refine Ext.trans ?_ b4 | refine Ext.trans ?_ b3 | refine Ext.trans ?_ b2 | refine Ext.trans ?_ b1))) _ _ _, _, _, rfl, (ON15.out.put_new (by repeat (first | exact Ext.refl _ | refine Ext.trans ?_ (Ext.alloc _ _) | refine Ext.trans ?_ (drew_ext _) | refine Ext.trans ?_ ba | refine Ext.trans ?_ b40 | refine Ext.trans ?_ b39 | refine Ext.trans ?_ b38 | refine Ext.trans ?_ b37 | refine Ext.trans ?_ b36 | refine Ext.trans ?_ b35 | refine Ext.trans ?_ b34 | refine Ext.trans ?_ b33 | refine Ext.trans ?_ b32 | refine Ext.trans ?_ b31 | refine Ext.trans ?_ b30 | refine Ext.trans ?_ b29 | refine Ext.trans ?_ b28 | refine Ext.trans ?_ b27 | refine Ext.trans ?_ b26 | refine Ext.trans ?_ b25 | refine Ext.trans ?_ b24 | refine Ext.trans ?_ b23 | refine Ext.trans ?_ b22 | refine Ext.trans ?_ b21 | refine Ext.trans ?_ b20 | refine Ext.trans ?_ b19 | refine Ext.trans ?_ b18 | refine Ext.trans ?_ b17 | refine Ext.trans ?_ b16 | refine Ext.trans ?_ b15 | refine Ext.trans ?_ b14 | refine Ext.trans ?_ b13 | refine Ext.trans ?_ b12 | refine Ext.trans ?_ b11 | refine Ext.trans ?_ b10 | refine Ext.trans ?_ b9 | refine Ext.trans ?_ b8 | refine Ext.trans ?_ b7 | refine Ext.trans ?_ b6 | refine Ext.trans ?_ b5 | refine Ext.trans ?_ b4 | refine Ext.trans ?_ b3 | refine Ext.trans ?_ b2 | refine Ext.trans ?_ b1)) (by omega) _ _ _).rd, (OD15.out.put_new (by repeat (first | exact Ext.refl _ | refine Ext.trans ?_ (Ext.alloc _ _) | refine Ext.trans ?_ (drew_ext _) | refine Ext.trans ?_ ba | refine Ext.trans ?_ b40 | refine Ext.trans ?_ b39 | refine Ext.trans ?_ b38 | refine Ext.trans ?_ b37 | refine Ext.trans ?_ b36 | refine Ext.trans ?_ b35 | refine Ext.trans ?_ b34 | refine Ext.trans ?_ b33 | refine Ext.trans ?_ b32 | refine Ext.trans ?_ b31 | refine Ext.trans ?_ b30 | refine Ext.trans ?_ b29 | refine Ext.trans ?_ b28 | refine Ext.trans ?_ b27 | refine Ext.trans ?_ b26 | refine Ext.trans ?_ b25 | refine Ext.trans ?_ b24 | refine Ext.trans ?_ b23 | refine Ext.trans ?_ b22 | refine Ext.trans ?_ b21 | refine Ext.trans ?_ b20 | refine Ext.trans ?_ b19 | refine Ext.trans ?_ b18 | refine Ext.trans ?_ b17 | refine Ext.trans ?_ b16 | refine Ext.trans ?_ b15 | refine Ext.trans ?_ b14 | refine Ext.trans ?_ b13 | refine Ext.trans ?_ b12 | refine Ext.trans ?_ b11 | refine Ext.trans ?_ b10 | refine Ext.trans ?_ b9 | refine Ext.trans ?_ b8 | refine Ext.trans ?_ b7 | refine Ext.trans ?_ b6 | refine Ext.trans ?_ b5 | refine Ext.trans ?_ b4 | refine Ext.trans ?_ b3 | refine Ext.trans ?_ b2 | refine Ext.trans ?_ b1)) (by omega) _ _ _).rd⟩
        case rest =>
          obtain ⟨hxc, B, s0, p0, l0, c0, p1, l1, c1, rfl, BO, RO⟩ := hcut
          generalize wc = w16 at *
          have b016 := Ext.trans b011 hxc
          have E5 := Lib.hid (D3.out.ext hxc)
          have E4 := Lib.hid (D5.out.ext hxc)
          have E6 := Lib.hid (BO.out.ext (Ext.refl w16))
          have E7 := Lib.hid (DU.out.ext hxc)
          have RU := Lib.hid (RU0.out.ext hxc)
          have RD := Lib.hid (RD11.out.ext hxc)
          have RX := Lib.hid (RQ11.out.ext hxc)
          go_upto_region 14 with (fail)
          by_cases h0 : sd = 0
          · subst h0
            have b17 := drew_ext w16
            have XE := b17
            refine wp_region_noPanic ?_
            refine wp_region_held_drew (S := fun w' => (w'.cell? ⟨w2.heap.size, 0, none⟩ = some (.bool z2) ∧ w'.cell? ⟨w2.heap.size, 1, none⟩ = some (.slice d5 n5 e5) ∧ w'.cell? ⟨w2.heap.size, 2, none⟩ = some (.slice d6 n6 e6)) ∧ (w'.cell? ⟨w5.heap.size, 0, none⟩ = some (.bool z4) ∧ w'.cell? ⟨w5.heap.size, 1, none⟩ = some (.slice d4 n4 e4) ∧ w'.cell? ⟨w5.heap.size, 2, none⟩ = some (.slice d9 n9 e9)) ∧ (w'.cell? ⟨B, 0, none⟩ = some (.bool s0) ∧ w'.cell? ⟨B, 1, none⟩ = some (.slice p0 l0 c0) ∧ w'.cell? ⟨B, 2, none⟩ = some (.slice p1 l1 c1)) ∧ (w'.cell? ⟨BU, 0, none⟩ = some (.bool s1) ∧ w'.cell? ⟨BU, 1, none⟩ = some (.slice a1 l7 c7) ∧ w'.cell? ⟨BU, 2, none⟩ = some (.slice a2 l8 c8))) (by kernel_rfl) (⟨E5.out.ext XE, E4.out.ext XE, E6.out.ext XE, E7.out.ext XE⟩) (fun hHeld => ?_)
            refine wpAnyH_ready (rs := [0]) (by kernel_rfl) (by simp) ?_
            refine AllReadyH.cons (o := _) rfl (fun K hK => ?_) AllReadyH.nil
            go_simp
            go_at_call 8; refine (awake06 (HM.out _ (Ext.trans b016 XE))).mono ?_; rintro e w18 ⟨_, rfl, b18, rfl⟩; (first | have XE := Ext.trans XE b18 | have XE := Ext.trans (Ext.trans XE (Ext.alloc _ _)) b18)
            go_wp2_with fail
            refine hK.out _ _ (⟨E5.out.ext XE, E4.out.ext XE, E6.out.ext XE, E7.out.ext XE⟩) (fun hHeld => ?_)
            clear hK K
            try simp only [Act.put, List.getElem_toArray, List.getElem_cons_succ, List.getElem_cons_zero, List.setIfInBounds_toArray, List.set_cons_zero, List.set_cons_succ]
            refine wpAnyH_take (i := 1) (v := ?_) rfl (by kernel_rfl) (by kernel_rfl) (by kernel_rfl) (fun _ _ _ h => h) (Or.inl ⟨by rfl, fun w0 hSw => ?_⟩) hHeld ?_
            rotate_left
            · (try dsimp only at hSw)
              go_simp
              try with_reducible rfl
            simp only [Act.put, List.getElem_toArray, List.getElem_cons_succ, List.getElem_cons_zero, List.setIfInBounds_toArray, List.set_cons_zero, List.set_cons_succ]
            refine wpAnyH_take (i := 2) (v := ?_) rfl (by kernel_rfl) (by kernel_rfl) (by kernel_rfl) (fun _ _ _ h => h) (Or.inl ⟨by rfl, fun w0 hSw => ?_⟩) hHeld ?_
            rotate_left
            · (try dsimp only at hSw)
              go_simp
              try with_reducible rfl
            simp only [Act.put, List.getElem_toArray, List.getElem_cons_succ, List.getElem_cons_zero, List.setIfInBounds_toArray, List.set_cons_zero, List.set_cons_succ]
            refine wpAnyH_take (i := 3) (v := ?_) rfl (by kernel_rfl) (by kernel_rfl) (by kernel_rfl) (fun _ _ _ h => h) (Or.inl ⟨by rfl, fun w0 hSw => ?_⟩) hHeld ?_
            rotate_left
            · (try dsimp only at hSw)
              go_simp
              try with_reducible rfl
            simp only [Act.put, List.getElem_toArray, List.getElem_cons_succ, List.getElem_cons_zero, List.setIfInBounds_toArray, List.set_cons_zero, List.set_cons_succ]
            refine wpAnyH_take (i := 4) (v := ?_) rfl (by kernel_rfl) (by kernel_rfl) (by kernel_rfl) (fun _ _ _ h => h) (Or.inl ⟨by rfl, fun w0 hSw => ?_⟩) hHeld ?_
            rotate_left
            · (try dsimp only at hSw)
              go_simp
              try with_reducible rfl
            simp only [Act.put, List.getElem_toArray, List.getElem_cons_succ, List.getElem_cons_zero, List.setIfInBounds_toArray, List.set_cons_zero, List.set_cons_succ]
            refine wpAnyH_take (i := 5) (v := ?_) rfl (by kernel_rfl) (by kernel_rfl) (by kernel_rfl) (fun _ _ _ h => h) (Or.inl ⟨by rfl, fun w0 hSw => ?_⟩) hHeld ?_
            rotate_left
            · (try dsimp only at hSw)
              go_simp
              try with_reducible rfl
            simp only [Act.put, List.getElem_toArray, List.getElem_cons_succ, List.getElem_cons_zero, List.setIfInBounds_toArray, List.set_cons_zero, List.set_cons_succ]
            refine wpAnyH_take (i := 6) (v := ?_) rfl (by kernel_rfl) (by kernel_rfl) (by kernel_rfl) (fun _ _ _ h => h) (Or.inl ⟨by rfl, fun w0 hSw => ?_⟩) hHeld ?_
            rotate_left
            · (try dsimp only at hSw)
              go_simp
              try with_reducible rfl
            simp only [Act.put, List.getElem_toArray, List.getElem_cons_succ, List.getElem_cons_zero, List.setIfInBounds_toArray, List.set_cons_zero, List.set_cons_succ]
            refine wpAnyH_take (i := 7) (v := ?_) rfl (by kernel_rfl) (by kernel_rfl) (by kernel_rfl) (fun _ _ _ h => h) (Or.inl ⟨by rfl, fun w0 hSw => ?_⟩) hHeld ?_
            rotate_left
            · (try dsimp only at hSw)
              go_simp
              try with_reducible rfl
            simp only [Act.put, List.getElem_toArray, List.getElem_cons_succ, List.getElem_cons_zero, List.setIfInBounds_toArray, List.set_cons_zero, List.set_cons_succ]
            refine wpAnyH_take (i := 8) (v := ?_) rfl (by kernel_rfl) (by kernel_rfl) (by kernel_rfl) (fun _ _ _ h => h) (Or.inl ⟨by rfl, fun w0 hSw => ?_⟩) hHeld ?_
            rotate_left
            · (try dsimp only at hSw)
              go_simp
              try with_reducible rfl
            simp only [Act.put, List.getElem_toArray, List.getElem_cons_succ, List.getElem_cons_zero, List.setIfInBounds_toArray, List.set_cons_zero, List.set_cons_succ]
            refine wpAnyH_take (i := 9) (v := ?_) rfl (by kernel_rfl) (by kernel_rfl) (by kernel_rfl) (fun _ _ _ h => h) (Or.inl ⟨by rfl, fun w0 hSw => ?_⟩) hHeld ?_
            rotate_left
            · (try dsimp only at hSw)
              go_simp
              try with_reducible rfl
            simp only [Act.put, List.getElem_toArray, List.getElem_cons_succ, List.getElem_cons_zero, List.setIfInBounds_toArray, List.set_cons_zero, List.set_cons_succ]
            refine wpAnyH_take (i := 10) (v := ?_) rfl (by kernel_rfl) (by kernel_rfl) (by kernel_rfl) (fun _ _ _ h => h) (Or.inl ⟨by rfl, fun w0 hSw => ?_⟩) hHeld ?_
            rotate_left
            · (try dsimp only at hSw)
              go_simp
              try with_reducible rfl
            simp only [Act.put, List.getElem_toArray, List.getElem_cons_succ, List.getElem_cons_zero, List.setIfInBounds_toArray, List.set_cons_zero, List.set_cons_succ]
            refine wpAnyH_ready (rs := [11]) (by kernel_rfl) (by simp) ?_
            refine AllReadyH.cons (o := _) rfl (fun K hK => ?_) AllReadyH.nil
            go_simp
            go_at_call 19; refine (HSO.out _ _ (RO.out.ext XE)).mono ?_; rintro e w19 ⟨_, rfl, b19, rfl⟩; (first | have XE := Ext.trans XE b19 | have XE := Ext.trans (Ext.trans XE (Ext.alloc _ _)) b19)
            go_wp2_with fail
            refine hK.out _ _ (⟨E5.out.ext XE, E4.out.ext XE, E6.out.ext XE, E7.out.ext XE⟩) (fun hHeld => ?_)
            clear hK K
            try simp only [Act.put, List.getElem_toArray, List.getElem_cons_succ, List.getElem_cons_zero, List.setIfInBounds_toArray, List.set_cons_zero, List.set_cons_succ]
            refine wpAnyH_take (i := 12) (v := ?_) rfl (by kernel_rfl) (by kernel_rfl) (by kernel_rfl) (fun _ _ _ h => h) (Or.inl ⟨by rfl, fun w0 hSw => ?_⟩) hHeld ?_
            rotate_left
            · (try dsimp only at hSw)
              go_simp
              try with_reducible rfl
            simp only [Act.put, List.getElem_toArray, List.getElem_cons_succ, List.getElem_cons_zero, List.setIfInBounds_toArray, List.set_cons_zero, List.set_cons_succ]
            refine wpAnyH_take (i := 13) (v := ?_) rfl (by kernel_rfl) (by kernel_rfl) (by kernel_rfl) (fun _ _ _ h => h) (Or.inl ⟨by rfl, fun w0 hSw => ?_⟩) hHeld ?_
            rotate_left
            · (try dsimp only at hSw)
              go_simp
              try with_reducible rfl
            simp only [Act.put, List.getElem_toArray, List.getElem_cons_succ, List.getElem_cons_zero, List.setIfInBounds_toArray, List.set_cons_zero, List.set_cons_succ]
            refine wpAnyH_take (i := 14) (v := ?_) rfl (by kernel_rfl) (by kernel_rfl) (by kernel_rfl) (fun _ _ _ h => h) (Or.inl ⟨by rfl, fun w0 hSw => ?_⟩) hHeld ?_
            rotate_left
            · (try dsimp only at hSw)
              go_simp
              try with_reducible rfl
            simp only [Act.put, List.getElem_toArray, List.getElem_cons_succ, List.getElem_cons_zero, List.setIfInBounds_toArray, List.set_cons_zero, List.set_cons_succ]
            refine wpAnyH_take (i := 15) (v := ?_) rfl (by kernel_rfl) (by kernel_rfl) (by kernel_rfl) (fun _ _ _ h => h) (Or.inl ⟨by rfl, fun w0 hSw => ?_⟩) hHeld ?_
            rotate_left
            · (try dsimp only at hSw)
              go_simp
              try with_reducible rfl
            simp only [Act.put, List.getElem_toArray, List.getElem_cons_succ, List.getElem_cons_zero, List.setIfInBounds_toArray, List.set_cons_zero, List.set_cons_succ]
            refine wpAnyH_take (i := 16) (v := ?_) rfl (by kernel_rfl) (by kernel_rfl) (by kernel_rfl) (fun _ _ _ h => h) (Or.inl ⟨by rfl, fun w0 hSw => ?_⟩) hHeld ?_
            rotate_left
            · (try dsimp only at hSw)
              go_simp
              try with_reducible rfl
            simp only [Act.put, List.getElem_toArray, List.getElem_cons_succ, List.getElem_cons_zero, List.setIfInBounds_toArray, List.set_cons_zero, List.set_cons_succ]
            refine wpAnyH_ready (rs := [17]) (by kernel_rfl) (by simp) ?_
            refine AllReadyH.cons (o := _) rfl (fun K hK => ?_) AllReadyH.nil
            go_simp
            go_at_call 12; refine (HCO.out _ _ _ (RO.out.ext XE) (RU.out.ext XE)).mono ?_; rintro e w20 ⟨_, rfl, b20, rfl⟩; (first | have XE := Ext.trans XE b20 | have XE := Ext.trans (Ext.trans XE (Ext.alloc _ _)) b20)
            go_wp2_with fail
            refine hK.out _ _ (⟨E5.out.ext XE, E4.out.ext XE, E6.out.ext XE, E7.out.ext XE⟩) (fun hHeld => ?_)
            clear hK K
            try simp only [Act.put, List.getElem_toArray, List.getElem_cons_succ, List.getElem_cons_zero, List.setIfInBounds_toArray, List.set_cons_zero, List.set_cons_succ]
            refine wpAnyH_take (i := 18) (v := ?_) rfl (by kernel_rfl) (by kernel_rfl) (by kernel_rfl) (fun _ _ _ h => h) (Or.inl ⟨by rfl, fun w0 hSw => ?_⟩) hHeld ?_
            rotate_left
            · (try dsimp only at hSw)
              go_simp
              try with_reducible rfl
            simp only [Act.put, List.getElem_toArray, List.getElem_cons_succ, List.getElem_cons_zero, List.setIfInBounds_toArray, List.set_cons_zero, List.set_cons_succ]
            refine wpAnyH_take (i := 19) (v := ?_) rfl (by kernel_rfl) (by kernel_rfl) (by kernel_rfl) (fun _ _ _ h => h) (Or.inl ⟨by rfl, fun w0 hSw => ?_⟩) hHeld ?_
            rotate_left
            · (try dsimp only at hSw)
              go_simp
              try with_reducible rfl
            simp only [Act.put, List.getElem_toArray, List.getElem_cons_succ, List.getElem_cons_zero, List.setIfInBounds_toArray, List.set_cons_zero, List.set_cons_succ]
            refine wpAnyH_take (i := 20) (v := ?_) rfl (by kernel_rfl) (by kernel_rfl) (by kernel_rfl) (fun _ _ _ h => h) (Or.inl ⟨by rfl, fun w0 hSw => ?_⟩) hHeld ?_
            rotate_left
            · (try dsimp only at hSw)
              go_simp
              try with_reducible rfl
            simp only [Act.put, List.getElem_toArray, List.getElem_cons_succ, List.getElem_cons_zero, List.setIfInBounds_toArray, List.set_cons_zero, List.set_cons_succ]
            refine wpAnyH_take (i := 21) (v := ?_) rfl (by kernel_rfl) (by kernel_rfl) (by kernel_rfl) (fun _ _ _ h => h) (Or.inl ⟨by rfl, fun w0 hSw => ?_⟩) hHeld ?_
            rotate_left
            · (try dsimp only at hSw)
              go_simp
              try with_reducible rfl
            simp only [Act.put, List.getElem_toArray, List.getElem_cons_succ, List.getElem_cons_zero, List.setIfInBounds_toArray, List.set_cons_zero, List.set_cons_succ]
            refine wpAnyH_ready (rs := [22]) (by kernel_rfl) (by simp) ?_
            refine AllReadyH.cons (o := _) rfl (fun K hK => ?_) AllReadyH.nil
            go_simp
            go_at_call 19; refine (HSD.out _ _ (RD.out.ext XE)).mono ?_; rintro e w21 ⟨_, rfl, b21, rfl⟩; (first | have XE := Ext.trans XE b21 | have XE := Ext.trans (Ext.trans XE (Ext.alloc _ _)) b21)
            go_wp2_with fail
            refine hK.out _ _ (⟨E5.out.ext XE, E4.out.ext XE, E6.out.ext XE, E7.out.ext XE⟩) (fun hHeld => ?_)
            clear hK K
            try simp only [Act.put, List.getElem_toArray, List.getElem_cons_succ, List.getElem_cons_zero, List.setIfInBounds_toArray, List.set_cons_zero, List.set_cons_succ]
            refine wpAnyH_take (i := 23) (v := ?_) rfl (by kernel_rfl) (by kernel_rfl) (by kernel_rfl) (fun _ _ _ h => h) (Or.inl ⟨by rfl, fun w0 hSw => ?_⟩) hHeld ?_
            rotate_left
            · (try dsimp only at hSw)
              go_simp
              try with_reducible rfl
            simp only [Act.put, List.getElem_toArray, List.getElem_cons_succ, List.getElem_cons_zero, List.setIfInBounds_toArray, List.set_cons_zero, List.set_cons_succ]
            refine wpAnyH_take (i := 24) (v := ?_) rfl (by kernel_rfl) (by kernel_rfl) (by kernel_rfl) (fun _ _ _ h => h) (Or.inl ⟨by rfl, fun w0 hSw => ?_⟩) hHeld ?_
            rotate_left
            · (try dsimp only at hSw)
              go_simp
              try with_reducible rfl
            simp only [Act.put, List.getElem_toArray, List.getElem_cons_succ, List.getElem_cons_zero, List.setIfInBounds_toArray, List.set_cons_zero, List.set_cons_succ]
            refine wpAnyH_take (i := 25) rfl (by kernel_rfl) (by kernel_rfl) (by kernel_rfl) (fun _ _ _ h => h) (Or.inr ⟨by rfl, rfl⟩) hHeld ?_
            simp only [Act.put, List.getElem_toArray, List.getElem_cons_succ, List.getElem_cons_zero, List.setIfInBounds_toArray, List.set_cons_zero, List.set_cons_succ]
            refine wpAnyH_take (i := 26) rfl (by kernel_rfl) (by kernel_rfl) (by kernel_rfl) (fun _ _ _ h => h) (Or.inr ⟨by rfl, rfl⟩) hHeld ?_
            simp only [Act.put, List.getElem_toArray, List.getElem_cons_succ, List.getElem_cons_zero, List.setIfInBounds_toArray, List.set_cons_zero, List.set_cons_succ]
            refine wpAnyH_take (i := 27) rfl (by kernel_rfl) (by kernel_rfl) (by kernel_rfl) (fun _ _ _ h => h) (Or.inr ⟨by rfl, rfl⟩) hHeld ?_
            simp only [Act.put, List.getElem_toArray, List.getElem_cons_succ, List.getElem_cons_zero, List.setIfInBounds_toArray, List.set_cons_zero, List.set_cons_succ]
            refine wpAnyH_take (i := 28) rfl (by kernel_rfl) (by kernel_rfl) (by kernel_rfl) (fun _ _ _ h => h) (Or.inr ⟨by rfl, rfl⟩) hHeld ?_
            simp only [Act.put, List.getElem_toArray, List.getElem_cons_succ, List.getElem_cons_zero, List.setIfInBounds_toArray, List.set_cons_zero, List.set_cons_succ]
            refine wpAnyH_take (i := 29) rfl (by kernel_rfl) (by kernel_rfl) (by kernel_rfl) (fun _ _ _ h => h) (Or.inr ⟨by rfl, rfl⟩) hHeld ?_
            simp only [Act.put, List.getElem_toArray, List.getElem_cons_succ, List.getElem_cons_zero, List.setIfInBounds_toArray, List.set_cons_zero, List.set_cons_succ]
            refine wpAnyH_take (i := 30) (v := ?_) rfl (by kernel_rfl) (by kernel_rfl) (by kernel_rfl) (fun _ _ _ h => h) (Or.inl ⟨by rfl, fun w0 hSw => ?_⟩) hHeld ?_
            rotate_left
            · (try dsimp only at hSw)
              go_simp
              try with_reducible rfl
            simp only [Act.put, List.getElem_toArray, List.getElem_cons_succ, List.getElem_cons_zero, List.setIfInBounds_toArray, List.set_cons_zero, List.set_cons_succ]
            refine wpAnyH_take (i := 31) (v := ?_) rfl (by kernel_rfl) (by kernel_rfl) (by kernel_rfl) (fun _ _ _ h => h) (Or.inl ⟨by rfl, fun w0 hSw => ?_⟩) hHeld ?_
            rotate_left
            · (try dsimp only at hSw)
              go_simp
              try with_reducible rfl
            simp only [Act.put, List.getElem_toArray, List.getElem_cons_succ, List.getElem_cons_zero, List.setIfInBounds_toArray, List.set_cons_zero, List.set_cons_succ]
            refine wpAnyH_take (i := 32) (v := ?_) rfl (by kernel_rfl) (by kernel_rfl) (by kernel_rfl) (fun _ _ _ h => h) (Or.inl ⟨by rfl, fun w0 hSw => ?_⟩) hHeld ?_
            rotate_left
            · (try dsimp only at hSw)
              go_simp
              try with_reducible rfl
            simp only [Act.put, List.getElem_toArray, List.getElem_cons_succ, List.getElem_cons_zero, List.setIfInBounds_toArray, List.set_cons_zero, List.set_cons_succ]
            refine wpAnyH_ready (rs := [33]) (by kernel_rfl) (by simp) ?_
            refine AllReadyH.cons (o := _) rfl (fun K hK => ?_) AllReadyH.nil
            go_simp
            go_at_call 21; refine (r5int_any (by omega)).mono ?_; rintro e w22 ⟨v22, rfl, b22, o22⟩; have O22 := Lib.hid o22; clear o22; (first | have XE := Ext.trans XE b22 | have XE := Ext.trans (Ext.trans XE (Ext.alloc _ _)) b22)
            go_wp2_with fail
            refine hK.out _ _ (⟨E5.out.ext XE, E4.out.ext XE, E6.out.ext XE, E7.out.ext XE⟩) (fun hHeld => ?_)
            clear hK K
            try simp only [Act.put, List.getElem_toArray, List.getElem_cons_succ, List.getElem_cons_zero, List.setIfInBounds_toArray, List.set_cons_zero, List.set_cons_succ]
            refine wpAnyH_ready (rs := [34]) (by kernel_rfl) (by simp) ?_
            refine AllReadyH.cons (o := _) rfl (fun K hK => ?_) AllReadyH.nil
            go_simp
            go_at_call 20; refine (r5sign_any O22.out.rd).mono ?_; rintro e w23 ⟨_, rfl, b23, rfl⟩; (first | have XE := Ext.trans XE b23 | have XE := Ext.trans (Ext.trans XE (Ext.alloc _ _)) b23)
            go_wp2_with fail
            refine hK.out _ _ (⟨E5.out.ext XE, E4.out.ext XE, E6.out.ext XE, E7.out.ext XE⟩) (fun hHeld => ?_)
            clear hK K
            try simp only [Act.put, List.getElem_toArray, List.getElem_cons_succ, List.getElem_cons_zero, List.setIfInBounds_toArray, List.set_cons_zero, List.set_cons_succ]
            refine wpAnyH_take (i := 35) (v := ?_) rfl (by kernel_rfl) (by kernel_rfl) (by kernel_rfl) (fun _ _ _ h => h) (Or.inl ⟨by rfl, fun w0 hSw => ?_⟩) hHeld ?_
            rotate_left
            · (try dsimp only at hSw)
              go_simp
              try with_reducible rfl
            simp only [Act.put, List.getElem_toArray, List.getElem_cons_succ, List.getElem_cons_zero, List.setIfInBounds_toArray, List.set_cons_zero, List.set_cons_succ]
            refine wpAnyH_take (i := 36) (v := ?_) rfl (by kernel_rfl) (by kernel_rfl) (by kernel_rfl) (fun _ _ _ h => h) (Or.inl ⟨by rfl, fun w0 hSw => ?_⟩) hHeld ?_
            rotate_left
            · (try dsimp only at hSw)
              go_simp
              try with_reducible rfl
            simp only [Act.put, List.getElem_toArray, List.getElem_cons_succ, List.getElem_cons_zero, List.setIfInBounds_toArray, List.set_cons_zero, List.set_cons_succ]
            refine wpAnyH_take (i := 37) (v := ?_) rfl (by kernel_rfl) (by kernel_rfl) (by kernel_rfl) (fun _ _ _ h => h) (Or.inl ⟨by rfl, fun w0 hSw => ?_⟩) hHeld ?_
            rotate_left
            · (try dsimp only at hSw)
              go_simp
              try with_reducible rfl
            simp only [Act.put, List.getElem_toArray, List.getElem_cons_succ, List.getElem_cons_zero, List.setIfInBounds_toArray, List.set_cons_zero, List.set_cons_succ]
            refine wpAnyH_done (by kernel_rfl) ?_ _
            refine NoPanic.normal ?_
            go_wp2_with fail
            exact HTR.out _ (Ext.trans b016 XE)
          · have hsd : (sd == 0) = false := beqF h0
            obtain rfl : sd = sx := NSG.resolve_left h0
            have b17 := drew_ext w16
            have XE := b17
            refine wp_region_noPanic ?_
            refine wp_region_held_drew (S := fun w' => (w'.cell? ⟨w2.heap.size, 0, none⟩ = some (.bool z2) ∧ w'.cell? ⟨w2.heap.size, 1, none⟩ = some (.slice d5 n5 e5) ∧ w'.cell? ⟨w2.heap.size, 2, none⟩ = some (.slice d6 n6 e6)) ∧ (w'.cell? ⟨w5.heap.size, 0, none⟩ = some (.bool z4) ∧ w'.cell? ⟨w5.heap.size, 1, none⟩ = some (.slice d4 n4 e4) ∧ w'.cell? ⟨w5.heap.size, 2, none⟩ = some (.slice d9 n9 e9)) ∧ (w'.cell? ⟨B, 0, none⟩ = some (.bool s0) ∧ w'.cell? ⟨B, 1, none⟩ = some (.slice p0 l0 c0) ∧ w'.cell? ⟨B, 2, none⟩ = some (.slice p1 l1 c1)) ∧ (w'.cell? ⟨BU, 0, none⟩ = some (.bool s1) ∧ w'.cell? ⟨BU, 1, none⟩ = some (.slice a1 l7 c7) ∧ w'.cell? ⟨BU, 2, none⟩ = some (.slice a2 l8 c8))) (by kernel_rfl) (⟨E5.out.ext XE, E4.out.ext XE, E6.out.ext XE, E7.out.ext XE⟩) (fun hHeld => ?_)
            refine wpAnyH_ready (rs := [0]) (by kernel_rfl) (by simp) ?_
            refine AllReadyH.cons (o := _) rfl (fun K hK => ?_) AllReadyH.nil
            go_simp
            go_at_call 8; refine (awake06 (HM.out _ (Ext.trans b016 XE))).mono ?_; rintro e w18 ⟨_, rfl, b18, rfl⟩; (first | have XE := Ext.trans XE b18 | have XE := Ext.trans (Ext.trans XE (Ext.alloc _ _)) b18)
            go_wp2_with fail
            refine hK.out _ _ (⟨E5.out.ext XE, E4.out.ext XE, E6.out.ext XE, E7.out.ext XE⟩) (fun hHeld => ?_)
            clear hK K
            try simp only [Act.put, List.getElem_toArray, List.getElem_cons_succ, List.getElem_cons_zero, List.setIfInBounds_toArray, List.set_cons_zero, List.set_cons_succ]
            refine wpAnyH_take (i := 1) (v := ?_) rfl (by kernel_rfl) (by kernel_rfl) (by kernel_rfl) (fun _ _ _ h => h) (Or.inl ⟨by rfl, fun w0 hSw => ?_⟩) hHeld ?_
            rotate_left
            · (try dsimp only at hSw)
              go_simp
              try with_reducible rfl
            simp only [Act.put, List.getElem_toArray, List.getElem_cons_succ, List.getElem_cons_zero, List.setIfInBounds_toArray, List.set_cons_zero, List.set_cons_succ]
            refine wpAnyH_take (i := 2) (v := ?_) rfl (by kernel_rfl) (by kernel_rfl) (by kernel_rfl) (fun _ _ _ h => h) (Or.inl ⟨by rfl, fun w0 hSw => ?_⟩) hHeld ?_
            rotate_left
            · (try dsimp only at hSw)
              go_simp
              try with_reducible rfl
            simp only [Act.put, List.getElem_toArray, List.getElem_cons_succ, List.getElem_cons_zero, List.setIfInBounds_toArray, List.set_cons_zero, List.set_cons_succ]
            refine wpAnyH_take (i := 3) (v := ?_) rfl (by kernel_rfl) (by kernel_rfl) (by kernel_rfl) (fun _ _ _ h => h) (Or.inl ⟨by rfl, fun w0 hSw => ?_⟩) hHeld ?_
            rotate_left
            · (try dsimp only at hSw)
              go_simp
              try with_reducible rfl
            simp only [Act.put, List.getElem_toArray, List.getElem_cons_succ, List.getElem_cons_zero, List.setIfInBounds_toArray, List.set_cons_zero, List.set_cons_succ]
            refine wpAnyH_take (i := 4) (v := ?_) rfl (by kernel_rfl) (by kernel_rfl) (by kernel_rfl) (fun _ _ _ h => h) (Or.inl ⟨by rfl, fun w0 hSw => ?_⟩) hHeld ?_
            rotate_left
            · (try dsimp only at hSw)
              go_simp
              try with_reducible rfl
            simp only [Act.put, List.getElem_toArray, List.getElem_cons_succ, List.getElem_cons_zero, List.setIfInBounds_toArray, List.set_cons_zero, List.set_cons_succ]
            refine wpAnyH_take (i := 5) (v := ?_) rfl (by kernel_rfl) (by kernel_rfl) (by kernel_rfl) (fun _ _ _ h => h) (Or.inl ⟨by rfl, fun w0 hSw => ?_⟩) hHeld ?_
            rotate_left
            · (try dsimp only at hSw)
              go_simp
              try with_reducible rfl
            simp only [Act.put, List.getElem_toArray, List.getElem_cons_succ, List.getElem_cons_zero, List.setIfInBounds_toArray, List.set_cons_zero, List.set_cons_succ]
            refine wpAnyH_take (i := 6) (v := ?_) rfl (by kernel_rfl) (by kernel_rfl) (by kernel_rfl) (fun _ _ _ h => h) (Or.inl ⟨by rfl, fun w0 hSw => ?_⟩) hHeld ?_
            rotate_left
            · (try dsimp only at hSw)
              go_simp
              try with_reducible rfl
            simp only [Act.put, List.getElem_toArray, List.getElem_cons_succ, List.getElem_cons_zero, List.setIfInBounds_toArray, List.set_cons_zero, List.set_cons_succ]
            refine wpAnyH_take (i := 7) (v := ?_) rfl (by kernel_rfl) (by kernel_rfl) (by kernel_rfl) (fun _ _ _ h => h) (Or.inl ⟨by rfl, fun w0 hSw => ?_⟩) hHeld ?_
            rotate_left
            · (try dsimp only at hSw)
              go_simp
              try with_reducible rfl
            simp only [Act.put, List.getElem_toArray, List.getElem_cons_succ, List.getElem_cons_zero, List.setIfInBounds_toArray, List.set_cons_zero, List.set_cons_succ]
            refine wpAnyH_take (i := 8) (v := ?_) rfl (by kernel_rfl) (by kernel_rfl) (by kernel_rfl) (fun _ _ _ h => h) (Or.inl ⟨by rfl, fun w0 hSw => ?_⟩) hHeld ?_
            rotate_left
            · (try dsimp only at hSw)
              go_simp
              try with_reducible rfl
            simp only [Act.put, List.getElem_toArray, List.getElem_cons_succ, List.getElem_cons_zero, List.setIfInBounds_toArray, List.set_cons_zero, List.set_cons_succ]
            refine wpAnyH_take (i := 9) (v := ?_) rfl (by kernel_rfl) (by kernel_rfl) (by kernel_rfl) (fun _ _ _ h => h) (Or.inl ⟨by rfl, fun w0 hSw => ?_⟩) hHeld ?_
            rotate_left
            · (try dsimp only at hSw)
              go_simp
              try with_reducible rfl
            simp only [Act.put, List.getElem_toArray, List.getElem_cons_succ, List.getElem_cons_zero, List.setIfInBounds_toArray, List.set_cons_zero, List.set_cons_succ]
            refine wpAnyH_take (i := 10) (v := ?_) rfl (by kernel_rfl) (by kernel_rfl) (by kernel_rfl) (fun _ _ _ h => h) (Or.inl ⟨by rfl, fun w0 hSw => ?_⟩) hHeld ?_
            rotate_left
            · (try dsimp only at hSw)
              go_simp
              try with_reducible rfl
            simp only [Act.put, List.getElem_toArray, List.getElem_cons_succ, List.getElem_cons_zero, List.setIfInBounds_toArray, List.set_cons_zero, List.set_cons_succ]
            refine wpAnyH_ready (rs := [11]) (by kernel_rfl) (by simp) ?_
            refine AllReadyH.cons (o := _) rfl (fun K hK => ?_) AllReadyH.nil
            go_simp
            go_at_call 19; refine (HSO.out _ _ (RO.out.ext XE)).mono ?_; rintro e w19 ⟨_, rfl, b19, rfl⟩; (first | have XE := Ext.trans XE b19 | have XE := Ext.trans (Ext.trans XE (Ext.alloc _ _)) b19)
            go_wp2_with fail
            refine hK.out _ _ (⟨E5.out.ext XE, E4.out.ext XE, E6.out.ext XE, E7.out.ext XE⟩) (fun hHeld => ?_)
            clear hK K
            try simp only [Act.put, List.getElem_toArray, List.getElem_cons_succ, List.getElem_cons_zero, List.setIfInBounds_toArray, List.set_cons_zero, List.set_cons_succ]
            refine wpAnyH_take (i := 12) (v := ?_) rfl (by kernel_rfl) (by kernel_rfl) (by kernel_rfl) (fun _ _ _ h => h) (Or.inl ⟨by rfl, fun w0 hSw => ?_⟩) hHeld ?_
            rotate_left
            · (try dsimp only at hSw)
              go_simp
              try with_reducible rfl
            simp only [Act.put, List.getElem_toArray, List.getElem_cons_succ, List.getElem_cons_zero, List.setIfInBounds_toArray, List.set_cons_zero, List.set_cons_succ]
            refine wpAnyH_take (i := 13) (v := ?_) rfl (by kernel_rfl) (by kernel_rfl) (by kernel_rfl) (fun _ _ _ h => h) (Or.inl ⟨by rfl, fun w0 hSw => ?_⟩) hHeld ?_
            rotate_left
            · (try dsimp only at hSw)
              go_simp
              try with_reducible rfl
            simp only [Act.put, List.getElem_toArray, List.getElem_cons_succ, List.getElem_cons_zero, List.setIfInBounds_toArray, List.set_cons_zero, List.set_cons_succ]
            refine wpAnyH_take (i := 14) (v := ?_) rfl (by kernel_rfl) (by kernel_rfl) (by kernel_rfl) (fun _ _ _ h => h) (Or.inl ⟨by rfl, fun w0 hSw => ?_⟩) hHeld ?_
            rotate_left
            · (try dsimp only at hSw)
              go_simp
              try with_reducible rfl
            simp only [Act.put, List.getElem_toArray, List.getElem_cons_succ, List.getElem_cons_zero, List.setIfInBounds_toArray, List.set_cons_zero, List.set_cons_succ]
            refine wpAnyH_take (i := 15) (v := ?_) rfl (by kernel_rfl) (by kernel_rfl) (by kernel_rfl) (fun _ _ _ h => h) (Or.inl ⟨by rfl, fun w0 hSw => ?_⟩) hHeld ?_
            rotate_left
            · (try dsimp only at hSw)
              go_simp
              try with_reducible rfl
            simp only [Act.put, List.getElem_toArray, List.getElem_cons_succ, List.getElem_cons_zero, List.setIfInBounds_toArray, List.set_cons_zero, List.set_cons_succ]
            refine wpAnyH_take (i := 16) (v := ?_) rfl (by kernel_rfl) (by kernel_rfl) (by kernel_rfl) (fun _ _ _ h => h) (Or.inl ⟨by rfl, fun w0 hSw => ?_⟩) hHeld ?_
            rotate_left
            · (try dsimp only at hSw)
              go_simp
              try with_reducible rfl
            simp only [Act.put, List.getElem_toArray, List.getElem_cons_succ, List.getElem_cons_zero, List.setIfInBounds_toArray, List.set_cons_zero, List.set_cons_succ]
            refine wpAnyH_ready (rs := [17]) (by kernel_rfl) (by simp) ?_
            refine AllReadyH.cons (o := _) rfl (fun K hK => ?_) AllReadyH.nil
            go_simp
            go_at_call 12; refine (HCO.out _ _ _ (RO.out.ext XE) (RU.out.ext XE)).mono ?_; rintro e w20 ⟨_, rfl, b20, rfl⟩; (first | have XE := Ext.trans XE b20 | have XE := Ext.trans (Ext.trans XE (Ext.alloc _ _)) b20)
            go_wp2_with fail
            refine hK.out _ _ (⟨E5.out.ext XE, E4.out.ext XE, E6.out.ext XE, E7.out.ext XE⟩) (fun hHeld => ?_)
            clear hK K
            try simp only [Act.put, List.getElem_toArray, List.getElem_cons_succ, List.getElem_cons_zero, List.setIfInBounds_toArray, List.set_cons_zero, List.set_cons_succ]
            refine wpAnyH_take (i := 18) (v := ?_) rfl (by kernel_rfl) (by kernel_rfl) (by kernel_rfl) (fun _ _ _ h => h) (Or.inl ⟨by rfl, fun w0 hSw => ?_⟩) hHeld ?_
            rotate_left
            · (try dsimp only at hSw)
              go_simp
              try with_reducible rfl
            simp only [Act.put, List.getElem_toArray, List.getElem_cons_succ, List.getElem_cons_zero, List.setIfInBounds_toArray, List.set_cons_zero, List.set_cons_succ]
            refine wpAnyH_take (i := 19) (v := ?_) rfl (by kernel_rfl) (by kernel_rfl) (by kernel_rfl) (fun _ _ _ h => h) (Or.inl ⟨by rfl, fun w0 hSw => ?_⟩) hHeld ?_
            rotate_left
            · (try dsimp only at hSw)
              go_simp
              try with_reducible rfl
            simp only [Act.put, List.getElem_toArray, List.getElem_cons_succ, List.getElem_cons_zero, List.setIfInBounds_toArray, List.set_cons_zero, List.set_cons_succ]
            refine wpAnyH_take (i := 20) (v := ?_) rfl (by kernel_rfl) (by kernel_rfl) (by kernel_rfl) (fun _ _ _ h => h) (Or.inl ⟨by rfl, fun w0 hSw => ?_⟩) hHeld ?_
            rotate_left
            · (try dsimp only at hSw)
              go_simp
              try with_reducible rfl
            simp only [Act.put, List.getElem_toArray, List.getElem_cons_succ, List.getElem_cons_zero, List.setIfInBounds_toArray, List.set_cons_zero, List.set_cons_succ]
            refine wpAnyH_take (i := 21) (v := ?_) rfl (by kernel_rfl) (by kernel_rfl) (by kernel_rfl) (fun _ _ _ h => h) (Or.inl ⟨by rfl, fun w0 hSw => ?_⟩) hHeld ?_
            rotate_left
            · (try dsimp only at hSw)
              go_simp
              try with_reducible rfl
            simp only [Act.put, List.getElem_toArray, List.getElem_cons_succ, List.getElem_cons_zero, List.setIfInBounds_toArray, List.set_cons_zero, List.set_cons_succ]
            refine wpAnyH_ready (rs := [22]) (by kernel_rfl) (by simp) ?_
            refine AllReadyH.cons (o := _) rfl (fun K hK => ?_) AllReadyH.nil
            go_simp
            go_at_call 19; refine (HSD.out _ _ (RD.out.ext XE)).mono ?_; rintro e w21 ⟨_, rfl, b21, rfl⟩; (first | have XE := Ext.trans XE b21 | have XE := Ext.trans (Ext.trans XE (Ext.alloc _ _)) b21)
            go_wp2_with fail
            refine hK.out _ _ (⟨E5.out.ext XE, E4.out.ext XE, E6.out.ext XE, E7.out.ext XE⟩) (fun hHeld => ?_)
            clear hK K
            try simp only [Act.put, List.getElem_toArray, List.getElem_cons_succ, List.getElem_cons_zero, List.setIfInBounds_toArray, List.set_cons_zero, List.set_cons_succ]
            refine wpAnyH_take (i := 23) (v := ?_) rfl (by kernel_rfl) (by kernel_rfl) (by kernel_rfl) (fun _ _ _ h => h) (Or.inl ⟨by rfl, fun w0 hSw => ?_⟩) hHeld ?_
            rotate_left
            · (try dsimp only at hSw)
              go_simp
              try with_reducible rfl
            simp only [Act.put, List.getElem_toArray, List.getElem_cons_succ, List.getElem_cons_zero, List.setIfInBounds_toArray, List.set_cons_zero, List.set_cons_succ]
            refine wpAnyH_take (i := 24) (v := ?_) rfl (by kernel_rfl) (by kernel_rfl) (by kernel_rfl) (fun _ _ _ h => h) (Or.inl ⟨by rfl, fun w0 hSw => ?_⟩) hHeld ?_
            rotate_left
            · (try dsimp only at hSw)
              go_simp
              try with_reducible rfl
            simp only [Act.put, List.getElem_toArray, List.getElem_cons_succ, List.getElem_cons_zero, List.setIfInBounds_toArray, List.set_cons_zero, List.set_cons_succ]
            refine wpAnyH_take (i := 25) (v := ?_) rfl (by kernel_rfl) (by kernel_rfl) (by kernel_rfl) (fun _ _ _ h => h) (Or.inl ⟨by rfl, fun w0 hSw => ?_⟩) hHeld ?_
            rotate_left
            · (try dsimp only at hSw)
              go_simp
              try with_reducible rfl
            simp only [Act.put, List.getElem_toArray, List.getElem_cons_succ, List.getElem_cons_zero, List.setIfInBounds_toArray, List.set_cons_zero, List.set_cons_succ]
            refine wpAnyH_take (i := 27) (v := ?_) rfl (by kernel_rfl) (by kernel_rfl) (by kernel_rfl) (fun _ _ _ h => h) (Or.inl ⟨by rfl, fun w0 hSw => ?_⟩) hHeld ?_
            rotate_left
            · (try dsimp only at hSw)
              go_simp
              try with_reducible rfl
            simp only [Act.put, List.getElem_toArray, List.getElem_cons_succ, List.getElem_cons_zero, List.setIfInBounds_toArray, List.set_cons_zero, List.set_cons_succ]
            refine wpAnyH_ready (rs := [26]) (by kernel_rfl) (by simp) ?_
            refine AllReadyH.cons (o := _) rfl (fun K hK => ?_) AllReadyH.nil
            go_simp
            go_at_call 19; refine (HSD.out _ _ (RD.out.ext XE)).mono ?_; rintro e w22 ⟨_, rfl, b22, rfl⟩; (first | have XE := Ext.trans XE b22 | have XE := Ext.trans (Ext.trans XE (Ext.alloc _ _)) b22)
            go_wp2_with fail
            refine hK.out _ _ (⟨E5.out.ext XE, E4.out.ext XE, E6.out.ext XE, E7.out.ext XE⟩) (fun hHeld => ?_)
            clear hK K
            try simp only [Act.put, List.getElem_toArray, List.getElem_cons_succ, List.getElem_cons_zero, List.setIfInBounds_toArray, List.set_cons_zero, List.set_cons_succ]
            refine wpAnyH_ready (rs := [28]) (by kernel_rfl) (by simp) ?_
            refine AllReadyH.cons (o := _) rfl (fun K hK => ?_) AllReadyH.nil
            go_simp
            go_at_call 19; refine (HSX.out _ _ (RX.out.ext XE)).mono ?_; rintro e w23 ⟨_, rfl, b23, rfl⟩; (first | have XE := Ext.trans XE b23 | have XE := Ext.trans (Ext.trans XE (Ext.alloc _ _)) b23)
            go_wp2_with fail
            refine hK.out _ _ (⟨E5.out.ext XE, E4.out.ext XE, E6.out.ext XE, E7.out.ext XE⟩) (fun hHeld => ?_)
            clear hK K
            try simp only [Act.put, List.getElem_toArray, List.getElem_cons_succ, List.getElem_cons_zero, List.setIfInBounds_toArray, List.set_cons_zero, List.set_cons_succ]
            refine wpAnyH_take (i := 29) (v := ?_) rfl (by kernel_rfl) (by kernel_rfl) (by kernel_rfl) (fun _ _ _ h => h) (Or.inl ⟨by rfl, fun w0 hSw => ?_⟩) hHeld ?_
            rotate_left
            · (try dsimp only at hSw)
              go_simp
              try with_reducible rfl
            simp only [Act.put, List.getElem_toArray, List.getElem_cons_succ, List.getElem_cons_zero, List.setIfInBounds_toArray, List.set_cons_zero, List.set_cons_succ]
            refine wpAnyH_take (i := 30) (v := ?_) rfl (by kernel_rfl) (by kernel_rfl) (by kernel_rfl) (fun _ _ _ h => h) (Or.inl ⟨by rfl, fun w0 hSw => ?_⟩) hHeld ?_
            rotate_left
            · (try dsimp only at hSw)
              go_simp
              try with_reducible rfl
            simp only [Act.put, List.getElem_toArray, List.getElem_cons_succ, List.getElem_cons_zero, List.setIfInBounds_toArray, List.set_cons_zero, List.set_cons_succ]
            refine wpAnyH_take (i := 31) (v := ?_) rfl (by kernel_rfl) (by kernel_rfl) (by kernel_rfl) (fun _ _ _ h => h) (Or.inl ⟨by rfl, fun w0 hSw => ?_⟩) hHeld ?_
            rotate_left
            · (try dsimp only at hSw)
              go_simp
              try with_reducible rfl
            simp only [Act.put, List.getElem_toArray, List.getElem_cons_succ, List.getElem_cons_zero, List.setIfInBounds_toArray, List.set_cons_zero, List.set_cons_succ]
            refine wpAnyH_take (i := 32) (v := ?_) rfl (by kernel_rfl) (by kernel_rfl) (by kernel_rfl) (fun _ _ _ h => h) (Or.inl ⟨by rfl, fun w0 hSw => ?_⟩) hHeld ?_
            rotate_left
            · (try dsimp only at hSw)
              go_simp
              try with_reducible rfl
            simp only [Act.put, List.getElem_toArray, List.getElem_cons_succ, List.getElem_cons_zero, List.setIfInBounds_toArray, List.set_cons_zero, List.set_cons_succ]
            refine wpAnyH_ready (rs := [33]) (by kernel_rfl) (by simp) ?_
            refine AllReadyH.cons (o := _) rfl (fun K hK => ?_) AllReadyH.nil
            go_simp
            go_at_call 21; refine (r5int_any (by omega)).mono ?_; rintro e w24 ⟨v24, rfl, b24, o24⟩; have O24 := Lib.hid o24; clear o24; (first | have XE := Ext.trans XE b24 | have XE := Ext.trans (Ext.trans XE (Ext.alloc _ _)) b24)
            go_wp2_with fail
            refine hK.out _ _ (⟨E5.out.ext XE, E4.out.ext XE, E6.out.ext XE, E7.out.ext XE⟩) (fun hHeld => ?_)
            clear hK K
            try simp only [Act.put, List.getElem_toArray, List.getElem_cons_succ, List.getElem_cons_zero, List.setIfInBounds_toArray, List.set_cons_zero, List.set_cons_succ]
            refine wpAnyH_ready (rs := [34]) (by kernel_rfl) (by simp) ?_
            refine AllReadyH.cons (o := _) rfl (fun K hK => ?_) AllReadyH.nil
            go_simp
            go_at_call 20; refine (r5sign_any O24.out.rd).mono ?_; rintro e w25 ⟨_, rfl, b25, rfl⟩; (first | have XE := Ext.trans XE b25 | have XE := Ext.trans (Ext.trans XE (Ext.alloc _ _)) b25)
            go_wp2_with fail
            refine hK.out _ _ (⟨E5.out.ext XE, E4.out.ext XE, E6.out.ext XE, E7.out.ext XE⟩) (fun hHeld => ?_)
            clear hK K
            try simp only [Act.put, List.getElem_toArray, List.getElem_cons_succ, List.getElem_cons_zero, List.setIfInBounds_toArray, List.set_cons_zero, List.set_cons_succ]
            refine wpAnyH_take (i := 35) (v := ?_) rfl (by kernel_rfl) (by kernel_rfl) (by kernel_rfl) (fun _ _ _ h => h) (Or.inl ⟨by rfl, fun w0 hSw => ?_⟩) hHeld ?_
            rotate_left
            · (try dsimp only at hSw)
              go_simp
              try with_reducible rfl
            simp only [Act.put, List.getElem_toArray, List.getElem_cons_succ, List.getElem_cons_zero, List.setIfInBounds_toArray, List.set_cons_zero, List.set_cons_succ]
            refine wpAnyH_take (i := 36) (v := ?_) rfl (by kernel_rfl) (by kernel_rfl) (by kernel_rfl) (fun _ _ _ h => h) (Or.inl ⟨by rfl, fun w0 hSw => ?_⟩) hHeld ?_
            rotate_left
            · (try dsimp only at hSw)
              go_simp
              try with_reducible rfl
            simp only [Act.put, List.getElem_toArray, List.getElem_cons_succ, List.getElem_cons_zero, List.setIfInBounds_toArray, List.set_cons_zero, List.set_cons_succ]
            refine wpAnyH_take (i := 37) (v := ?_) rfl (by kernel_rfl) (by kernel_rfl) (by kernel_rfl) (fun _ _ _ h => h) (Or.inl ⟨by rfl, fun w0 hSw => ?_⟩) hHeld ?_
            rotate_left
            · (try dsimp only at hSw)
              go_simp
              try with_reducible rfl
            simp only [Act.put, List.getElem_toArray, List.getElem_cons_succ, List.getElem_cons_zero, List.setIfInBounds_toArray, List.set_cons_zero, List.set_cons_succ]
            refine wpAnyH_done (by kernel_rfl) ?_ _
            refine NoPanic.normal ?_
            go_wp2_with fail
            exact HTR.out _ (Ext.trans b016 XE)
      · have hlt : decide ((j : Int) < (k : Int)) = true := decide_eq_true (by omega)
        obtain ⟨s1, a1, l1, c1, a2, l2, c2, cU, rU, qU⟩ := hU.out.op
        obtain ⟨s3, a3, l3, c3, a4, l4, c4, cT, rT, qT⟩ := hT.out.op
        obtain ⟨k0, k1, k2⟩ := cU.out.c3
        obtain ⟨j0, j1, j2⟩ := cT.out.c3
        have SU : Hid (Sz 8 (uQ j)) := uQ_sz (by omega)
        go_wp2_with fail
        refine (rmul_any qU.out.rd qT.out.rd (SU.out.le (by decide)) (HST.out.le (by decide))).mono ?_
        rintro e w11 ⟨_, rfl, b11, o11⟩
        rw [← HUS.out] at o11
        obtain ⟨z7, d7, n7, e7, d8, n8, e8, rfl, Q11⟩ := o11.op
        clear o11 k0 k1 k2 j0 j1 j2
        obtain ⟨_, _, _, k0, k1, k2, g0, g1, g2⟩ := (rU.out.ext b11).rm.c3
        go_wp2_with fail
        go_roundw
        case rel => exact ⟨j + 1, by go_num, by omega, put3_below (Ext.trans hx b11) hBU6 _ _ _, Bq.set (rU.out.ext b11) (by decide) (Q11.out.mono (Nat.zero_le _)), (hT.out.ext b11).put (rU.out.ext b11) (by decide) (Ne.symm hne) _ _ _⟩
        case measure => simp [intOf] <;> omega
theorem own : ownKnob Tryz.prog.godebug = none := by kernel_rfl
theorem laidOut : laidOutB Tryz.prog = true := by kernel_rfl

set_option maxRecDepth 100000 in
theorem contract (H : Type) (enc : TypeId × Value → H) (W : World) (base : Nat) (args : Array Value) (ds gs : List (DataW H)) (before : List MemPlace)
    (hval : ∀ (j : Nat) t v, Tryz.f4.params[j]? = some t → args[j]? = some v → Value.okWide Tryz.prog W .any base t v)
    (hW : DataW.Whole enc Tryz.prog Tryz.f4.params.toList Rows.rtextNearSpec.vars false W args.toList ds gs before) (hk : Rows.uptoSmall H (ds ++ gs) = true) (hm : ∃ m, W.cell? ⟨0, 0, none⟩ = some (.int .i64 m)) :
    Calls Tryz.prog 4 args W fun e W' => ∃ v, e = .returned v ∧ Rows.rtextNearSpec.post enc Tryz.prog Tryz.f4 false true false false W args v W' := by
  have hW' := hW
  obtain ⟨p, q, hA0, hV, rfl, hfz, hnd⟩ := hW
  have hA : DataW.TrodAll enc Tryz.prog W 0 (fun _ => true) true Tryz.f4.params.toList args.toList ds p := hA0
  rw [Tryz.params4] at hA hval
  obtain ⟨v0, vs0, d0, ds0, p0, q0, hargs, rfl, rfl, h0, r0⟩ := trodAll_cons hA
  obtain ⟨v1, vs1, d1, ds1, p1, q1, rfl, rfl, rfl, h1, r1⟩ := trodAll_cons r0
  obtain ⟨rfl, rfl, rfl⟩ := trodAll_nil r1
  obtain rfl : args = #[v0, v1] := by cases args; simp_all
  obtain ⟨rfl, rfl⟩ := trodVars_none hV
  have hb := bulk_small hk
  simp only [List.append_nil, bulk_cons, bulk_nil] at hb
  have k0 := h0
  have lt0 : ∀ x ∈ p0, x.block < W.heap.size := by obtain ⟨m, hm⟩ := k0; exact DataW.trod_lt m _ _ _ hm
  obtain ⟨s0, x0, y0, rd0, len0⟩ := open_N (hval 0 24 v0 rfl rfl) h0
  obtain ⟨a1, rfl, rfl, rfl, wf1⟩ := open_int Tryz.underlying3 (hval 1 3 v1 rfl rfl) h1
  clear hA0
  refine (walk rd0 (by omega) (by omega) (wf_int wf1) hm).mono fun e W' ⟨v, he, bel, hv⟩ => ?_
  subst he hv
  exact ⟨_, rfl, _, _, _, [], _, [], hW', trodAll_mk1 (shut_bool Tryz.underlying4 _), (trodAll_cons_mk (Below.trod laidOut (by kernel_rfl) (of_decide_eq_true (by kernel_rfl)) k0 bel lt0) (trodAll_cons_mk (shut_int Tryz.underlying3 wf1) trodAll_mk0)), rfl, bel.frame _, fun h => by cases h⟩

theorem laid_met (os : Os) : laidMet Tryz.prog Rows.rtextNearUptoRow.laid ((laidWorld os).forCall (fun _ _ => 0) ⟨#[], #[.agg #[.bool false, .slice none 0 0, .slice none 0 0], .int .i64 0], []⟩).memory :=
  laidMet_of_run' 8 (by kernel_rfl) (by kernel_rfl)
theorem reads (os : Os) {H : Type} (enc : TypeId × Value → H) : ∃ places, DataW.whole enc Tryz.prog ((laidWorld os).forCall (fun _ _ => 0) ⟨#[], #[.agg #[.bool false, .slice none 0 0, .slice none 0 0], .int .i64 0], []⟩).memory Tryz.f4.params.toList Rows.rtextNearSpec.vars false (#[.agg #[.bool false, .slice none 0 0, .slice none 0 0], .int .i64 0] : Array Value).toList 8 = some ([.agg [.lit (.bool false), .nil, .nil], .lit (.int .i64 0)], [], places) :=
  ⟨[], by kernel_rfl⟩

set_option maxRecDepth 100000 in
theorem lifted (os : Os) (started : os.Started) (H : Type) (enc : TypeId × Value → H) (F : Stop.Interp) :
    ReturnsInHanded {} Tryz.checked os 4 .any ((Rows.OpenSpec.upto Rows.rtextNearSpec).preRow enc Tryz.prog Tryz.f4 Rows.rtextNearUptoRow.domain false Rows.rtextNearUptoRow.laid) (((Rows.OpenSpec.upto Rows.rtextNearSpec).at F).post enc Tryz.prog Tryz.f4 false true false false) := by
  obtain ⟨places, hx⟩ := reads os enc
  refine returnsInHanded_of_row (C := Tryz.checked) (s := Rows.OpenSpec.upto Rows.rtextNearSpec) own started (by kernel_rfl) Tryz.func4
    (witness_row_at (enc := enc) (C := Tryz.checked) false (laidWorld os) #[.agg #[.bool false, .slice none 0 0, .slice none 0 0], .int .i64 0] rfl (by kernel_rfl) (by kernel_rfl) (by kernel_rfl)
      (OpenSpec.preRow_of_cond 8 hx (by kernel_rfl) (fun k hk => by cases hk; kernel_rfl) (by kernel_rfl) (laid_met os))) ?_
  intro W base args ds gs before hval hW _ hcond _ _ hsh _
  exact contract H enc W base args ds gs before hval hW (hcond _ rfl) (Tryz.maxLen_cell hsh)

theorem said : Rows.RtextNearUptoSaid :=
  OpenClaim.holds_of_cond 4 Tryz.f4 rfl rfl rfl rfl rfl rfl rfl ⟨rfl, rfl, rfl, rfl, rfl⟩ rfl rfl rfl rfl rfl (by kernel_rfl) Tryz.func4 (by kernel_rfl)
    (of_decide_eq_true (by kernel_rfl)) (by unfold Func.isWrapper; first | (rw [if_pos (by decide +kernel)]; kernel_rfl) | (rw [if_neg (by decide +kernel)]; exact ⟨rfl, rfl⟩))
    (fun os started H enc _ F => by rw [OpenClaim.pre_eq_preRow]; exact lifted os started H enc F)

/-- No parameter wants a stand-in; the program's own looks are off: what the card asks. -/
theorem plain (f : FuncId) (fn : Func) (hf : Tryz.pinned.checked.prog.funcNamed "attest/attestlaw06.RtextNear" = some f) (hfn : Tryz.pinned.checked.prog.funcs[f]? = some fn) :
    false = Tryz.pinned.checked.prog.looks [] ∧ ∀ (j : Nat) t, fn.params[j]? = some t → Tryz.pinned.checked.prog.wantsStandIn t = false := by
  obtain rfl : f = 4 := Option.some.inj ((show Tryz.prog.funcNamed "attest/attestlaw06.RtextNear" = some 4 by kernel_rfl).symm.trans hf) |>.symm
  obtain rfl : fn = Tryz.f4 := (Option.some.inj (Tryz.func4.symm.trans hfn)).symm
  refine ⟨by kernel_rfl, fun j t ht => ?_⟩
  rw [Tryz.params4] at ht
  have hm : t ∈ #[24, 3] := Array.mem_of_getElem? ht
  simp only [List.mem_toArray, List.mem_cons, List.not_mem_nil, or_false] at hm
  rcases hm with rfl | rfl
  · exact (show Tryz.prog.wantsStandIn 24 = false by kernel_rfl)
  · exact (show Tryz.prog.wantsStandIn 3 = false by kernel_rfl)

/-- The card. -/
theorem proved : Rows.RtextNearUptoCardSaid :=
  Claim7.holds_tied_plain_at .later [] _ _ _ _ said (fun _ h => by cases h) (by kernel_rfl) (fun _ h => by cases h) rtextNearUpto_row_tie rfl ⟨rfl, rfl⟩ (by kernel_rfl) rfl plain (by kernel_rfl)
#print axioms proved

end Go.Proofs.YtgajpmcjjefghaaGreatDoor.rtextNear
