/- attestref08.Coef -/
import Derived.Test.YtnbbhpihlcglgaaLinPlain
import Derived.Test.YtnbbhpihlcglgaaLinAll
import Derived.Test.YtnbbhpihlcglgaaRef5All
namespace Go.Proofs.Ytnbbhpihlcglgaa
open Go.RowKit Go.Att

abbrev RdY (w : World) (v : Value) (l : TL) (c : Rat) : Prop := RdEy 4 w v l c
theorem FormT.take {l : TL} (h : FormT l) (j : Nat) : FormT (l.take j) := ⟨h.1.sublist (List.take_sublist j l), fun t ht => h.2 t (List.mem_of_mem_take ht)⟩
theorem FormT.cf_sz {K : Nat} {l : TL} (h : FormT l) (hK : 1 ≤ K) (hs : ∀ t ∈ l, Sz K t.2) (x : Int) : Sz K (cf l x) := by
  by_cases h0 : cf l x = 0
  · rw [h0]; exact Sz.zero.le hK
  · obtain ⟨t, ht, e⟩ := (h.mem x).2 h0
    subst e
    rw [h.at ht]
    exact hs t ht
set_option linter.unusedSimpArgs false in
set_option maxHeartbeats 4000000 in
set_option maxRecDepth 100000 in
theorem r8coef_any {w : World} {v : Value} {l : TL} {c : Rat} {x : Int} (K : Nat) (hv : RdY w v l c) (hs : ∀ t ∈ l, Sz K t.2) (hz : ∀ j, Sz K (cf (l.take j) x)) (hl : l.length ≤ 1000) (hK : K ≤ 1500) :
    Calls Try.prog 35 #[v, .int .i64 x] w (Gives w fun v' w' => OwnP 4 0 w' v' (cf l x)) := by
  refine via fun R hR => ?_
  have HS := Lib.hid hs
  obtain ⟨a, k, s, b, m, d, b', m', d', rfl, hlk, hkm, HRW, HRC⟩ := hv.op
  clear hv
  have HSZ := Lib.hid hz
  clear hs hz
  obtain ⟨w1, hw1, b1, c1, c2, r1, r2, -⟩ := bx2 w [.slice a l.length k, .bool s, .slice b m d, .slice b' m' d'] [.bool false, .slice none 0 0, .slice none 0 0] 69 46
  have HW := Lib.hid hw1
  have C1 := Lib.hid c1
  have R2 : Hid (Rt w1 (w.heap.size + 1) 3 46) := by
    show Rt _ _ _ _
    rw [hw1]
    have := Rt.new (w.alloc (.cells #[.slice a l.length k, .bool s, .slice b m d, .slice b' m' d'] 69)) [.bool false, .slice none 0 0, .slice none 0 0] 46
    simpa using this
  clear c1 c2 r1 r2 hw1
  have HI : Hid (∀ w, Calls Try.prog 41 #[.int .i64 0] w (Gives w fun v' w' => OwnP 4 w.heap.size w' v' 0)) := fun w => by
    have h := r5int_any (w := w) (u := 0) (by omega)
    have e : ((0 : Int) : Rat) = 0 := by decide +kernel
    rwa [e] at h
  go_enter Try.func35, Try.ntmps35
  go_upto_region 1 with (fail)
  rw [← HW.out]
  clear HW
  go_wp2_with fail
  refine (HI.out _).mono ?_
  rintro e w2 ⟨_, rfl, b2, o2⟩
  obtain ⟨s8, a8, l8, c8, a7, l7, c7, rfl, O2⟩ := o2.op
  clear o2
  obtain ⟨w3, hw3, b3, hC3⟩ : ∃ W, W = w2.alloc (.cells #[.bool s8, .slice a8 l8 c8, .slice a7 l7 c7] 46) ∧ Ext w2 W ∧ Bp 4 46 W w2.heap.size 0 := ⟨_, rfl, Ext.alloc _ _, Bp.new (O2.out.mono (Nat.zero_le _))⟩
  have HW := Lib.hid hw3
  clear hw3 O2
  go_upto_region 2 with (fail)
  rw [← HW.out]
  clear HW
  have k0 := (C1.out.ext (Ext.trans b2 b3)).c1
  go_wp2_with fail
  clear k0
  go_loopw [12] (fun t wr => ∃ j : Nat, t = .int .i64 j ∧ j ≤ l.length ∧ Ext w2 wr ∧ Hid (Bp 4 46 wr w2.heap.size (cf (l.take j) x))) (fun t _ => l.length - (intOf t).toNat)
  case atStart => exact ⟨0, rfl, Nat.zero_le _, b3, by rw [List.take_zero]; exact hC3⟩
  case round =>
    clear hC3
    obtain ⟨j, rfl, hj, hx, hC⟩ := hrel
    by_cases hjl : j < l.length
    · have hd : decide ((j : Int) < (l.length : Int)) = true := decide_eq_true (by omega)
      obtain ⟨bT, oT, rfl⟩ := HRW.out.some_atP hjl
      obtain ⟨sx, ax, lx, mx, ay, ly, my, hB4, hQ4⟩ := HRW.out.tp j hjl
      have b0r := Ext.trans b1 (Ext.trans b2 hx)
      obtain ⟨u0, u1, u2, u3⟩ := hB4.ext b0r
      have hJ1 : IntKind.i64.wrap (j : Int) = (j : Int) := by rw [IntKind.wrap_i64]; omega
      have hJ2 : (0 : Int) ≤ (j : Int) ∧ (j : Int) < (l.length : Int) := ⟨by omega, by omega⟩
      have HSN := Lib.hid (cf_snoc hjl x)
      obtain ⟨y, hy⟩ : ∃ y, (gt l j).1 = y := ⟨_, rfl⟩
      obtain ⟨q4, hq4⟩ : ∃ q4, (gt l j).2 = q4 := ⟨_, rfl⟩
      have HSQ : Hid (Sz K q4) := by rw [← hq4, gt_lt hjl]; exact HS.out _ (List.getElem_mem hjl)
      rw [hy, hq4] at HSN
      rw [hy] at u0
      rw [hq4] at hQ4
      have HQ4 := Lib.hid (hQ4.ext b0r)
      clear hy hq4 hB4 hQ4
      obtain ⟨w4, hw4, b4, c4, -, -⟩ := bx1 wr [.int .i64 y, .bool sx, .slice ax lx mx, .slice ay ly my] 173
      have HW := Lib.hid hw4
      have C4 := Lib.hid c4
      clear hw4 c4
      go_upto_region 5 with (fail)
      rw [← HW.out]
      clear HW u0 u1 u2 u3
      obtain ⟨u0, u1, u2, u3⟩ := C4.out.c4
      have hC4 := Lib.hid (hC.out.ext b4)
      by_cases hyx : y = x
      · have he : (y != x) = false := bneF hyx
        rw [if_pos hyx] at HSN
        obtain ⟨s0, e1, n1, g1, e2, n2, g2, T1, T2, T3⟩ := hC4.out.op
        obtain ⟨k0, k1, k2⟩ := T1.out.c3
        have HSG : Hid (Calls Try.prog 94 #[.agg #[.bool s0, .slice e1 n1 g1, .slice e2 n2 g2]] w4 (Gives w4 fun v' _ => v' = .int .i64 (cf (l.take j) x).num.sign)) := r5sign_any T3.out.rd
        clear hyx
        by_cases hz : cf (l.take j) x = 0
        · rw [hz, Rat.zero_add] at HSN
          have hs0 : (cf (l.take j) x).num.sign = 0 := by rw [hz]; rfl
          rw [hs0] at HSG
          clear hz hs0
          go_wp2_with fail
          refine HSG.out.mono ?_
          rintro e w5 ⟨_, rfl, b5, rfl⟩
          clear k0 k1 k2
          obtain ⟨_, _, _, k0, k1, k2, i0, i1, i2⟩ := (T2.out.ext b5).rm.c3
          obtain ⟨u0, u1, u2, u3⟩ := (C4.out.ext b5).c4
          go_wp2_with fail
          go_roundw
          case rel => exact ⟨j + 1, by go_num, by omega, put3_below (Ext.trans hx (Ext.trans b4 b5)) (Nat.le_refl _) _ _ _, by rw [HSN.out]; exact Bp.set (T2.out.ext b5) (by decide) ((HQ4.out.ext b4).ext b5)⟩
          case measure => simp [intOf] <;> omega
        · have hs0 : ((cf (l.take j) x).num.sign == 0) = false := beqF fun h => hz (num_sign_zero.1 h)
          have HJZ := Lib.hid (HSZ.out j)
          generalize (cf (l.take j) x).num.sign = sg at *
          clear hz
          go_wp2_with fail
          refine HSG.out.mono ?_
          rintro e w5 ⟨_, rfl, b5, rfl⟩
          clear k0 k1 k2
          obtain ⟨k0, k1, k2⟩ := (T1.out.ext b5).c3
          obtain ⟨u0, u1, u2, u3⟩ := (C4.out.ext b5).c4
          go_wp2_with fail
          refine (r5add_any (T3.out.rd.ext b5) (HQ4.out.rd.ext (Ext.trans b4 b5)) (HJZ.out.bits.le (by omega)) (HSQ.out.bits.le (by omega))).mono ?_
          rintro e w6 ⟨_, rfl, b6, o6⟩
          rw [← HSN.out] at o6
          obtain ⟨s9, a9, l9, c9, a6, l6, c6, rfl, O6⟩ := o6.op
          clear o6 k0 k1 k2
          obtain ⟨_, _, _, k0, k1, k2, i0, i1, i2⟩ := (T2.out.ext (Ext.trans b5 b6)).rm.c3
          go_wp2_with fail
          go_roundw
          case rel => exact ⟨j + 1, by go_num, by omega, put3_below (Ext.trans hx (Ext.trans b4 (Ext.trans b5 b6))) (Nat.le_refl _) _ _ _, Bp.set (T2.out.ext (Ext.trans b5 b6)) (by decide) (O6.out.mono (Nat.zero_le _))⟩
          case measure => simp [intOf] <;> omega
      · have he : (y != x) = true := bneT hyx
        rw [if_neg hyx, Rat.add_zero] at HSN
        clear hyx
        go_wp2_with fail
        go_roundw
        case rel => exact ⟨j + 1, by go_num, by omega, Ext.trans hx b4, by rw [HSN.out]; exact hC4.out⟩
        case measure => simp [intOf] <;> omega
    · obtain rfl : j = l.length := by omega
      have hd : decide ((l.length : Int) < (l.length : Int)) = false := decide_eq_false (by omega)
      obtain ⟨s0, e1, n1, g1, e2, n2, g2, T1, T2, T3⟩ := hC.out.op
      obtain ⟨k0, k1, k2⟩ := T1.out.c3
      have RR := Lib.hid (R2.out.ext (Ext.trans b2 hx))
      obtain ⟨_, _, _, j0, j1, j2, i0, i1, i2⟩ := RR.out.rm.c3
      go_wp2_with fail
      refine bodyPost_ret (v := .agg #[.bool s0, .slice e1 n1 g1, .slice e2 n2 g2]) (by simp [results, Try.results35, go_sem, j0, j1, j2]) rfl ?_
      exact hR.out _ _ (Gives.mk (put3_below (Ext.trans b1 (Ext.trans b2 hx)) (Nat.le_succ _) _ _ _) (by
        rw [List.take_length] at T3
        exact T3.out.putT RR.out (by decide) 0 [_, _, _]))
end Go.Proofs.Ytnbbhpihlcglgaa
