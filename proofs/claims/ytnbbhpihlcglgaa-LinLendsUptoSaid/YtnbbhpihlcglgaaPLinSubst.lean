/- lin.Subst -/
import Derived.Test.YtnbbhpihlcglgaaPLinReps
import Derived.Test.YtnbbhpihlcglgaaLinAll
namespace Go.Proofs.Ytnbbhpihlcglgaa
open Go.RowKit Go.Att

/-- All terms but those of one variable. -/
def rst (l : TL) (x : Int) : TL := l.filter fun t => !decide (t.1 = x)
theorem rst_len (l : TL) (x : Int) : (rst l x).length ≤ l.length := List.length_filter_le _ _
theorem rst_take {l : TL} {j : Nat} (x : Int) (hj : j < l.length) : rst (l.take (j + 1)) x = if (gt l j).1 = x then rst (l.take j) x else rst (l.take j) x ++ [gt l j] := by
  unfold rst
  rw [← List.take_append_getElem hj, List.filter_append, gt_lt hj]
  split <;> simp [*]
theorem rst_mem {l : TL} {x : Int} {t : Int × Rat} (h : t ∈ rst l x) : t ∈ l := (List.mem_filter.1 h).1
theorem rst_cf (l : TL) (x u : Int) : cf (rst l x) u = if u = x then 0 else cf l u := by
  induction l with
  | nil => show (0 : Rat) = if u = x then 0 else 0; split <;> rfl
  | cons t l ih =>
    unfold rst at *
    rw [List.filter_cons]
    show cf _ u = if u = x then 0 else ((if t.1 = u then t.2 else 0) + cf l u)
    by_cases h : t.1 = x
    · rw [if_neg (by simp [h]), ih]
      by_cases hu : u = x
      · rw [if_pos hu, if_pos hu]
      · rw [if_neg hu, if_neg hu, if_neg (fun e => hu (e.symm.trans h)), Rat.zero_add]
    · rw [if_pos (by simp [h])]
      show (if t.1 = u then t.2 else 0) + cf _ u = _
      rw [ih]
      by_cases hu : u = x
      · rw [if_pos hu, if_pos hu, if_neg (fun e => h (e.trans hu)), Rat.zero_add]
      · rw [if_neg hu, if_neg hu]
set_option linter.unusedSimpArgs false in
set_option maxHeartbeats 4000000 in
set_option maxRecDepth 100000 in
theorem lsubst_any {w : World} {va vb : Value} {x : Int} {la lb : TL} {ca cb : Rat} (L M : Nat) (ha : RdX w va la ca) (hb : RdX w vb lb cb) (hsa : ∀ t ∈ la, Sz L t.2) (hsb : ∀ t ∈ lb, Sz L t.2) (hca : Sz M ca) (hcb : Sz M cb) (hl : la.length + lb.length ≤ 1000)
    (hL : lb.length * (la.length * (L + 1) + 1 + L + 1) + 1 + (la.length * (L + 1) + 1) + L ≤ 5000) (hM : M ≤ 5000) :
    Calls Try.prog 45 #[va, .int .i64 x, vb] w (Gives w fun v' w' => ∃ l', FormT l' ∧ (∀ u, cf l' u = cf (rst la x) u + cf la x * cf lb u) ∧ l'.length ≤ la.length + lb.length ∧ OwnX w.heap.size w' v' l' (ca + cf la x * cb)) := by
  refine via fun R hR => ?_
  obtain ⟨q, hq⟩ : ∃ q, cf la x = q := ⟨_, rfl⟩
  obtain ⟨KK, hK⟩ : ∃ KK, la.length * (L + 1) + 1 = KK := ⟨_, rfl⟩
  have HZQ : Hid (Sz KK q) := by show Sz _ _; rw [← hq, ← hK]; exact cf_sz hsa x
  rw [hK] at hL
  have HCO : Hid (∀ w', Ext w w' → Calls Try.prog 48 #[va, .int .i64 x] w' (Gives w' fun v' w' => OwnQ 163 0 w' v' q)) := fun w' y => hq ▸ coef_any (x := x) L (ha.ext y) hsa (by omega) (by omega)
  have HSCA : Hid (∀ w' vr, Ext w w' → OwnQ 163 0 w' vr q → Calls Try.prog 43 #[vr, vb] w' (Gives w' fun v' w' => ∃ l', FormT l' ∧ (∀ u, cf l' u = q * cf lb u) ∧ (∀ t ∈ l', Sz (lb.length * (KK + L + 1) + 1) t.2) ∧ l'.length ≤ lb.length ∧ OwnX 0 w' v' l' (q * cb))) := fun w' vr y h => by
    refine (lscale_any KK L M h (hb.ext y) HZQ.out hsb hcb (by omega) (by omega) (by omega)).mono ?_
    rintro _ _ ⟨v, e, b, l', h1, h2, h3, h4, o⟩
    exact ⟨v, e, b, l', h1, h2, h3, h4, o.mono (Nat.zero_le _)⟩
  rw [hq] at hR
  clear hq hK
  have HRSZ : Hid (∀ t ∈ rst la x, Sz (lb.length * (KK + L + 1) + 1 + L) t.2) := fun t ht => (hsa t (rst_mem ht)).le (by omega)
  have HCA := Lib.hid hca
  have HCB := Lib.hid hcb
  obtain ⟨a, k, s, b, m, d, b', m', d', rfl, hlk, hkm, HRW, HRC⟩ := ha.op
  obtain ⟨a5, k5, s5, d5, m5, e5, d6, m6, e6, rfl, -, -, -, -⟩ := hb.op
  clear ha hb hsa hsb hca hcb
  obtain ⟨w1, hw1, b1, c1, c2, c3, r1, r2, r3, -⟩ := bx3 w [.slice a la.length k, .bool s, .slice b m d, .slice b' m' d'] [.slice a5 lb.length k5, .bool s5, .slice d5 m5 e5, .slice d6 m6 e6] [.slice none 0 0, .bool false, .slice none 0 0, .slice none 0 0] 63 63 63
  have HW := Lib.hid hw1
  have C1 := Lib.hid c1
  have C2 := Lib.hid c2
  have R3 : Hid (Rt w1 (w.heap.size + 1 + 1) 4 63) := by
    show Rt _ _ _ _
    rw [hw1]
    have := Rt.new ((w.alloc (.cells #[.slice a la.length k, .bool s, .slice b m d, .slice b' m' d'] 63)).alloc (.cells #[.slice a5 lb.length k5, .bool s5, .slice d5 m5 e5, .slice d6 m6 e6] 63)) [.slice none 0 0, .bool false, .slice none 0 0, .slice none 0 0] 63
    simpa using this
  have h01 : w.heap.size ≤ w1.heap.size := Below.size b1
  clear c1 c2 c3 r1 r2 r3 hw1
  go_enter Try.func45, Try.ntmps45
  go_upto_region 1 with (fail)
  rw [← HW.out]
  clear HW
  obtain ⟨k0, k1, k2, k3⟩ := C1.out.c4
  go_wp2_with fail
  refine (HCO.out _ b1).mono ?_
  rintro e w2 ⟨_, rfl, b2, o2⟩
  obtain ⟨s7, a7, l7, c7, a6, l6, c6, rfl, O2⟩ := o2.op
  clear o2 k0 k1 k2 k3
  obtain ⟨w3, hw3, b3, c3, -, -⟩ := bx1 w2 [.bool s7, .slice a7 l7 c7, .slice a6 l6 c6] 32
  have HW := Lib.hid hw3
  have C3 := Lib.hid c3
  clear hw3 c3
  go_upto_region 2 with (fail)
  rw [← HW.out]
  clear HW
  have b13 := Ext.trans b2 b3
  have b03 := Ext.trans b1 b13
  have HQ3 := Lib.hid (O2.out.ext b3)
  have HRW3 := Lib.hid (HRW.out.ext OwnTm.ext b03)
  have HRC3 := Lib.hid (HRC.out.ext b03)
  have D1 := Lib.hid (C1.out.ext b13)
  have D2 := Lib.hid (C2.out.ext b13)
  obtain ⟨BC, hBC⟩ : ∃ BC, w2.heap.size = BC := ⟨_, rfl⟩
  rw [hBC] at C3 ⊢
  clear hBC O2 HRW HRC C1 C2
  obtain ⟨w4, hw4, b4, c4, r4, -⟩ := bx1 w3 [.slice none 0 0, .bool s, .slice b m d, .slice b' m' d'] 63
  have HW := Lib.hid hw4
  have R4 : Hid (Rt w4 w3.heap.size 4 63) := by
    show Rt _ _ _ _
    rw [hw4]
    exact Rt.new w3 [.slice none 0 0, .bool s, .slice b m d, .slice b' m' d'] 63
  have C4 := Lib.hid c4
  clear hw4 c4 r4
  obtain ⟨k0, k1, k2, k3⟩ := D1.out.c4
  go_upto_region 3 with (fail)
  rw [← HW.out]
  clear HW k0 k1 k2 k3
  obtain ⟨BO, hBO⟩ : ∃ BO, w3.heap.size = BO := ⟨_, rfl⟩
  have hBO3 : w3.heap.size ≤ BO := Nat.le_of_eq hBO
  rw [hBO] at C4 R4 ⊢
  clear hBO
  obtain ⟨k0, k1, k2, k3⟩ := (D1.out.ext b4).c4
  go_wp2_with fail
  clear k0 k1 k2 k3
  go_loopw [20] (fun t wr => ∃ (j : Nat) (ao : Option Addr) (ko : Nat), t = .int .i64 j ∧ j ≤ la.length ∧ Ext w3 wr ∧ Hid (Bx wr BO [.slice ao (rst (la.take j) x).length ko, .bool s, .slice b m d, .slice b' m' d']) ∧ Hid (Rt wr BO 4 63) ∧ Hid (OwnRow 4 (OwnTm 163) 84 w3.heap.size wr (.slice ao (rst (la.take j) x).length ko) (rst (la.take j) x))) (fun t _ => la.length - (intOf t).toNat)
  case atStart => exact ⟨0, none, 0, rfl, Nat.zero_le _, b4, by rw [List.take_zero]; exact C4.out, R4.out, by rw [List.take_zero]; exact OwnRow.nil _ _ _⟩
  case round =>
    clear C4 R4
    obtain ⟨j, ao, ko, rfl, hj, hx, hC, hRt, hO⟩ := hrel
    by_cases hjl : j < la.length
    · have hd : decide ((j : Int) < (la.length : Int)) = true := decide_eq_true (by omega)
      obtain ⟨bT, oT, rfl⟩ := HRW3.out.some_at hjl
      obtain ⟨sx, ax, lx, mx, ay, ly, my, hB4, hQT⟩ := HRW3.out.tm j hjl
      obtain ⟨u0, u1, u2, u3⟩ := hB4.ext hx
      have hJ1 : IntKind.i64.wrap (j : Int) = (j : Int) := by rw [IntKind.wrap_i64]; omega
      have hJ2 : (0 : Int) ≤ (j : Int) ∧ (j : Int) < (la.length : Int) := ⟨by omega, by omega⟩
      have HSN := Lib.hid (rst_take x hjl)
      have HOL : Hid ((rst (la.take j) x).length ≤ j) := by show _ ≤ _; have := rst_len (la.take j) x; rw [List.length_take] at this; omega
      obtain ⟨y, hy⟩ : ∃ y, (gt la j).1 = y := ⟨_, rfl⟩
      obtain ⟨q4, hq4⟩ : ∃ q4, (gt la j).2 = q4 := ⟨_, rfl⟩
      have hyq : gt la j = (y, q4) := Prod.ext hy hq4
      rw [hyq] at HSN
      rw [hy] at u0
      rw [hq4] at hQT
      have HQT := Lib.hid (hQT.ext hx)
      clear hy hq4 hyq hB4 hQT
      change Hid (rst (la.take (j + 1)) x = if y = x then rst (la.take j) x else rst (la.take j) x ++ [(y, q4)]) at HSN
      obtain ⟨ol, hol⟩ : ∃ ol, rst (la.take j) x = ol := ⟨_, rfl⟩
      rw [hol] at hC hO HOL HSN
      clear hol
      obtain ⟨w6, hw6, b6, c6', -, -⟩ := bx1 wr [.int .i64 y, .bool sx, .slice ax lx mx, .slice ay ly my] 84
      have HW := Lib.hid hw6
      have DT := Lib.hid c6'
      clear hw6 c6'
      go_upto_region 6 with (fail)
      rw [← HW.out]
      clear HW u0 u1 u2 u3
      have DO := Lib.hid (hC.out.ext b6)
      have hRt6 := Lib.hid (hRt.out.ext b6)
      have hO6 := Lib.hid (hO.out.ext OwnTm.ext b6)
      have HQ6 := Lib.hid (HQT.out.ext b6)
      have x6 := Ext.trans hx b6
      clear hC hRt hO HQT
      obtain ⟨t0, t1, t2, t3⟩ := DT.out.c4
      by_cases hyx : y = x
      · have he : (y != x) = false := bneF hyx
        rw [if_pos hyx] at HSN
        clear hyx
        go_wp2_with fail
        go_roundw
        case rel => exact ⟨j + 1, ao, ko, by go_num, by omega, x6, by rw [HSN.out]; exact DO.out, hRt6.out, by rw [HSN.out]; exact hO6.out⟩
        case measure => simp [intOf] <;> omega
      · have he : (y != x) = true := bneT hyx
        rw [if_neg hyx] at HSN
        clear hyx
        have neO := hO6.out.ne_rt hRt6.out (by decide)
        obtain ⟨ol2, hol2⟩ : ∃ ol2, ol ++ [(y, q4)] = ol2 := ⟨_, rfl⟩
        have HS2 := Lib.hid hol2
        rw [hol2] at HSN
        clear hol2
        obtain ⟨k0, k1, k2, k3⟩ := DO.out.c4
        go_wp2_with (at_builtin; refine append_rowL (y := (y, q4)) etTm (kdT (e := 163) (by decide)) (by rfl) _ _ (by rfl) w3.heap.size (by rfl) _ (by rfl) hO6.out rfl ⟨_, _, _, rfl, HQ6.out⟩ (Below.size x6) (by have := HOL.out; omega) (by have := HOL.out; unfold maxLen; omega) ?_; intro v9 w9 o9 b9 g9; have xA := Ext.alloc w6 (.cells #[.int .i64 y, .bool sx, .slice ax lx mx, .slice ay ly my] 84); have RO9 := Lib.hid ((hRt6.out.ext xA).grow g9 neO); have DO9 := Lib.hid ((DO.out.ext xA).grow g9 neO); have XW := Below.trans x6 b9; rw [HS2.out] at o9; obtain ⟨a11, k11, rfl, -, -⟩ := o9.rd.shape; obtain ⟨_, _, _, _, n0, n1, n2, n3, i0, i1, i2, i3⟩ := RO9.out.c4)
        go_roundw
        case rel => exact ⟨j + 1, a11, k11, by go_num, by omega, putL_below hBO3 [_] 0 XW, by
          rw [HSN.out]
          exact DO9.out.set0 RO9.out (by decide) _, RO9.out.set0 _, by
          rw [HSN.out]
          exact o9.putT RO9.out (by decide) 0 [_] (fun v a h => h.putT RO9.out (by decide) 0 [_])⟩
        case measure => simp [intOf] <;> omega
    · obtain rfl : j = la.length := by omega
      have hd : decide ((la.length : Int) < (la.length : Int)) = false := decide_eq_false (by omega)
      rw [List.take_length] at hC hO
      have hrl := rst_len la x
      obtain ⟨ol, hol⟩ : ∃ ol, rst la x = ol := ⟨_, rfl⟩
      rw [hol] at hC hO HRSZ hR hrl
      have HOL := Lib.hid hol
      clear hol
      have RX : Hid (RdX wr (.agg #[.slice ao ol.length ko, .bool s, .slice b m d, .slice b' m' d']) ol ca) := ⟨_, _, _, _, rfl, hO.out.rd, HRC3.out.ext hx⟩
      obtain ⟨w7, hw7⟩ : ∃ w0 : World, w0 = wr := ⟨_, rfl⟩
      subst hw7
      have E2 := Lib.hid (D2.out.ext hx)
      have E3 := Lib.hid (C3.out.ext hx)
      have b07 := Ext.trans b03 hx
      have h03 := Below.size b03
      have h37 := Below.size hx
      have RR := Lib.hid (R3.out.ext (Ext.trans b13 hx))
      go_upto_region 9 with (fail)
      have b8 := drew_ext w7
      have XE := b8
      refine wp_region_noPanic ?_
      refine wp_region_last_drew (st := 5) (S := fun w' => (w'.cell? ⟨BO, 0, none⟩ = some (.slice ao ol.length ko) ∧ w'.cell? ⟨BO, 1, none⟩ = some (.bool s) ∧ w'.cell? ⟨BO, 2, none⟩ = some (.slice b m d) ∧ w'.cell? ⟨BO, 3, none⟩ = some (.slice b' m' d')) ∧ (w'.cell? ⟨BC, 0, none⟩ = some (.bool s7) ∧ w'.cell? ⟨BC, 1, none⟩ = some (.slice a7 l7 c7) ∧ w'.cell? ⟨BC, 2, none⟩ = some (.slice a6 l6 c6)) ∧ (w'.cell? ⟨w.heap.size + 1, 0, none⟩ = some (.slice a5 lb.length k5) ∧ w'.cell? ⟨w.heap.size + 1, 1, none⟩ = some (.bool s5) ∧ w'.cell? ⟨w.heap.size + 1, 2, none⟩ = some (.slice d5 m5 e5) ∧ w'.cell? ⟨w.heap.size + 1, 3, none⟩ = some (.slice d6 m6 e6))) (by kernel_rfl) (⟨(hC.out.ext XE).c4, (E3.out.ext XE).c3, (E2.out.ext XE).c4⟩) (fun hHeld => ?_)
      refine wpAnyL_take (i := 0) (v := ?_) rfl (by kernel_rfl) (by kernel_rfl) (by kernel_rfl) (by kernel_rfl) (fun _ _ _ h => h) (Or.inl ⟨by rfl, fun w0 hSw => ?_⟩) hHeld ?_
      rotate_left
      · (try dsimp only at hSw)
        go_simp
        try with_reducible rfl
      simp only [Act.put, List.getElem_toArray, List.getElem_cons_succ, List.getElem_cons_zero, List.setIfInBounds_toArray, List.set_cons_zero, List.set_cons_succ]
      refine wpAnyL_take (i := 1) (v := ?_) rfl (by kernel_rfl) (by kernel_rfl) (by kernel_rfl) (by kernel_rfl) (fun _ _ _ h => h) (Or.inl ⟨by rfl, fun w0 hSw => ?_⟩) hHeld ?_
      rotate_left
      · (try dsimp only at hSw)
        go_simp
        try with_reducible rfl
      simp only [Act.put, List.getElem_toArray, List.getElem_cons_succ, List.getElem_cons_zero, List.setIfInBounds_toArray, List.set_cons_zero, List.set_cons_succ]
      refine wpAnyL_take (i := 2) (v := ?_) rfl (by kernel_rfl) (by kernel_rfl) (by kernel_rfl) (by kernel_rfl) (fun _ _ _ h => h) (Or.inl ⟨by rfl, fun w0 hSw => ?_⟩) hHeld ?_
      rotate_left
      · (try dsimp only at hSw)
        go_simp
        try with_reducible rfl
      simp only [Act.put, List.getElem_toArray, List.getElem_cons_succ, List.getElem_cons_zero, List.setIfInBounds_toArray, List.set_cons_zero, List.set_cons_succ]
      refine wpAnyL_ready (rs := [3]) (by kernel_rfl) (by simp) ?_
      refine AllReadyL.cons (o := _) rfl (fun K hK => ?_) AllReadyL.nil
      go_simp
      go_at_call 43; refine (HSCA.out _ _ (Ext.trans b07 XE) (HQ3.out.ext (Ext.trans hx XE))).mono ?_; rintro e w9 ⟨v9, rfl, b9, o9⟩; have O9 := Lib.hid o9; clear o9; (first | have XE := Ext.trans XE b9 | have XE := Ext.trans (Ext.trans XE (Ext.alloc _ _)) b9); obtain ⟨l3, hf3, hc3, hz3, hl3, o3⟩ := O9.out; have HZ3 := Lib.hid hz3; clear hz3
      go_wp2_with fail
      refine hK.out _ _ (⟨(hC.out.ext XE).c4, (E3.out.ext XE).c3, (E2.out.ext XE).c4⟩) (fun hHeld => ?_)
      clear hK K
      try simp only [Act.put, List.getElem_toArray, List.getElem_cons_succ, List.getElem_cons_zero, List.setIfInBounds_toArray, List.set_cons_zero, List.set_cons_succ]
      refine wpAnyL_ready (rs := [4]) (by kernel_rfl) (by simp) ?_
      refine AllReadyL.cons (o := _) rfl (fun K hK => ?_) AllReadyL.nil
      go_simp
      go_at_call 40; refine (ladd_any (lb.length * (KK + L + 1) + 1 + L) (KK + M) (RX.out.ext XE) o3.rd HRSZ.out (fun t ht => (HZ3.out t ht).le (by omega)) (HCA.out.le (by omega)) ((HZQ.out.mul HCB.out).le (by omega)) (by omega) (by omega) (by omega)).mono ?_; rintro e w10 ⟨v10, rfl, b10, o10⟩; have O10 := Lib.hid o10; clear o10; (first | have XE := Ext.trans XE b10 | have XE := Ext.trans (Ext.trans XE (Ext.alloc _ _)) b10); obtain ⟨l4, hf4, hc4, hz4, hl4, o4⟩ := O10.out; have HF4 := Lib.hid hf4; have HC4 := Lib.hid hc4; have HC3 := Lib.hid hc3; clear hz4 hf4 hc4 hc3 hf3 o3 O9 O10; obtain ⟨ar, kr, sr, br, mr, dr, br', mr', dr', rfl, -, -, HX⟩ := OwnEx.op o4; clear o4
      go_wp2_with fail
      refine hK.out _ _ (⟨(hC.out.ext XE).c4, (E3.out.ext XE).c3, (E2.out.ext XE).c4⟩) (fun hHeld => ?_)
      clear hK K
      try simp only [Act.put, List.getElem_toArray, List.getElem_cons_succ, List.getElem_cons_zero, List.setIfInBounds_toArray, List.set_cons_zero, List.set_cons_succ]
      obtain ⟨_, _, _, _, j0, j1, j2, j3, i0, i1, i2, i3⟩ := (RR.out.ext XE).c4
      refine wpAnyL_ready (rs := [5]) (by kernel_rfl) (by simp) ?_
      refine AllReadyL.last (o := _) rfl (fun K hK => ?_)
      go_simp
      refine hK.out _ _ ?_
      clear hK K
      try simp only [Act.put, List.getElem_toArray, List.getElem_cons_succ, List.getElem_cons_zero, List.setIfInBounds_toArray, List.set_cons_zero, List.set_cons_succ]
      refine wpAnyL_done (by kernel_rfl) ?_ _
      refine NoPanic.normal ?_
      go_wp2_with fail
      refine bodyPost_ret (v := .agg #[.slice ar l4.length kr, .bool sr, .slice br mr dr, .slice br' mr' dr']) (by simp [results, Try.results45, go_sem, j0, j1, j2, j3]) rfl ?_
      have hB9 : w.heap.size ≤ w9.heap.size := by have := Below.size (Ext.trans b8 b9); omega
      exact hR.out _ _ (Gives.mk (put4_below (Ext.trans b07 XE) (by omega) _ _ _ _ _) ⟨l4, HF4.out, fun u => by rw [HC4.out, HC3.out], by omega, (HX.out.mono hB9).putT (RR.out.ext XE) (by decide) (by decide) 0 [_, _, _, _]⟩)
theorem rep_subst {w : World} {va vb : Value} {x : Int} {la lb : TL} {ca cb : Rat} (ha : RdX w va la ca) (hb : RdX w vb lb cb) (za : Smx la ca) (zb : Smx lb cb) :
    Calls Try.prog 45 #[va, .int .i64 x, vb] w (Gives w fun v' w' => Rep w' v' (fun u => cf (rst la x) u + cf la x * cf lb u) (ca + cf la x * cb)) := by
  have h1 := za.1
  have h2 := zb.1
  have h3 : lb.length * (la.length * (8 + 1) + 1 + 8 + 1) ≤ 12 * 118 := Nat.mul_le_mul h2 (by omega)
  refine (lsubst_any (x := x) 8 8 ha hb za.2.1 zb.2.1 za.2.2 zb.2.2 (by omega) (by omega) (by decide)).mono ?_
  rintro _ _ ⟨v, e, b, l', hf, hc, hl, o⟩
  refine ⟨v, e, b, l', hf, hc, Okx.form hf (by decide) (by omega) (fun u => ?_) ?_, OwnEx.rd o⟩
  · rw [hc]
    have hr : Sz 109 (cf (rst la x) u) := by
      rw [rst_cf]
      split
      · exact Sz.zero.le (by decide)
      · exact za.cf u
    exact (hr.add ((za.cf x).mul (zb.cf u))).le (by decide)
  · exact (za.2.2.add ((za.cf x).mul zb.2.2)).le (by decide)
end Go.Proofs.Ytnbbhpihlcglgaa
