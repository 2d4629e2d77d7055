/- LinForms: an expression with terms in any order, doubled or nought, is put into its one form; coefficients and variables are told rightly. Conditions: the arguments hold together at most 1048576 values (the second form, Upto). -/
import Derived.Test.YtnbbhpihlcglgaaFrameE
import Derived.Test.YtnbbhpihlcglgaaLinPlain
import Derived.Test.YtnbbhpihlcglgaaPLinReps
import Derived.Test.YtnbbhpihlcglgaaPLinVars
import Derived.Test.YtnbbhpihlcglgaaLinAll
import Derived.Test.YtnbbhpihlcglgaaPIs05
import Derived.Test.YtnbbhpihlcglgaaPAwake08
import Derived.Test.YtnbbhpihlcglgaaRef5All
namespace Go.Proofs.Ytnbbhpihlcglgaa.linForms
open Go.ChangeShapes Go.WideShapes Go.ChangeAt Go.RowKit Go.Att

/-- One cell. -/
def Cl (w : World) (b o : Nat) (x : Value) : Prop := w.cell? ⟨b, o, none⟩ = some x
theorem Cl.ext {w w' : World} {b o : Nat} {x : Value} (h : Cl w b o x) (e : Ext w w') : Cl w' b o x := Ext.cell e h
set_option maxHeartbeats 100000000 in
set_option maxRecDepth 100000 in
set_option linter.unusedSimpArgs false in
theorem walk {w : World} {v0 v2 : Value} {l0 : List (Int × NN)} {n0 : NN} {x : Int} {s2 : Bool} {x2 y2 : List Nat} (hv0 : RdNE w v0 l0 n0) (hb0 : ∀ p ∈ l0, bN p.2 ≤ 1048576) (hn0 : bN n0 ≤ 1048576) (_hl0 : l0.length ≤ 1048576)
    (_hx : -9223372036854775808 ≤ x ∧ x ≤ 9223372036854775807) (hv2 : RdN w v2 s2 x2 y2) (hx2 : x2.length ≤ 1048576) (hy2 : y2.length ≤ 1048576) :
    Calls Try.prog 7 #[v0, .int .i64 x, v2] w (Gives w fun v' _ => v' = .bool true) := by
  refine via fun R hR => ?_
  unfold bN at hb0 hn0
  have ZA := Lib.hid (tL_sm hv0)
  have ZR : Hid (Sz 8 (qOf s2 x2 y2)) := qN_sz (n := (s2, x2, y2)) hv2
  have HEA : Hid (∀ (w : World) (v : Value), RdNE w v l0 n0 → Calls Try.prog 31 #[v] w (Gives w fun v' w' => OwnX 0 w' v' (tL l0) (qN n0))) := fun w v h => expr8_sm h (fun t ht => by have := hb0 t ht; exact ⟨by omega, by omega⟩) ⟨by omega, by omega⟩
  have HOF : Hid (∀ (w : World) (v : Value), RdN w v s2 x2 y2 → Calls Try.prog 18 #[v] w (Gives w fun v' w' => OwnQ 163 0 w' v' (qOf s2 x2 y2))) := fun w v h => (of8_any h (by omega) (by omega)).mono fun _ _ ⟨v, e, b, o⟩ => ⟨v, e, b, o.mono (Nat.zero_le _)⟩
  have HV0 := Lib.hid hv0
  have HV2 := Lib.hid hv2
  obtain ⟨sl0, t1, t2, rfl, hr0, -⟩ := hv0
  obtain ⟨aa, ka, rfl, -, -⟩ := hr0.shape
  obtain ⟨t7, t8, rfl, -, -⟩ := hv2
  clear hr0 hb0 hn0
  obtain ⟨g0, hg0⟩ : ∃ g0, n0.1 = g0 := ⟨_, rfl⟩
  obtain ⟨m0, hm0⟩ : ∃ m0, l0.length = m0 := ⟨_, rfl⟩
  rw [hg0, hm0] at HV0 ⊢
  clear hg0 hm0
  generalize tL l0 = la at *
  generalize qN n0 = ca at *
  generalize qOf s2 x2 y2 = r at *
  have e1 : ((1 : Int) : Rat) = 1 := by decide +kernel
  have e3 : ((0 : Int) : Rat) = 0 := by decide +kernel
  have M1 : Hid (ca = ((1 : Int) : Rat) * ca + ((0 : Int) : Rat) * ca ∧ ∀ u, cf la u = ((1 : Int) : Rat) * cf la u + ((0 : Int) : Rat) * cf la u) := ⟨by rw [e1, e3, Rat.one_mul, Rat.zero_mul, Rat.add_zero], fun u => by rw [e1, e3, Rat.one_mul, Rat.zero_mul, Rat.add_zero]⟩
  clear e1 e3
  have I1 : Hid (∀ w, Calls Try.prog 41 #[.int .i64 1] w (Gives w fun v' w' => OwnP 4 0 w' v' ((1 : Int) : Rat))) := fun w => (r5int_any (by omega)).mono fun _ _ ⟨v, e, b, o⟩ => ⟨v, e, b, o.mono (Nat.zero_le _)⟩
  have I3 : Hid (∀ w, Calls Try.prog 41 #[.int .i64 0] w (Gives w fun v' w' => OwnP 4 0 w' v' ((0 : Int) : Rat))) := fun w => (r5int_any (by omega)).mono fun _ _ ⟨v, e, b, o⟩ => ⟨v, e, b, o.mono (Nat.zero_le _)⟩
  have J1 : Hid (∀ w, Calls Try.prog 44 #[.int .i64 1] w (Gives w fun v' w' => OwnQ 163 0 w' v' ((1 : Int) : Rat))) := fun w => (rint_any (by omega)).mono fun _ _ ⟨v, e, b, o⟩ => ⟨v, e, b, o.mono (Nat.zero_le _)⟩
  have HVA : Hid (∀ w, Calls Try.prog 49 #[.int .i64 x] w (Gives w fun v' w' => OwnX 0 w' v' [(x, ((1 : Int) : Rat))] 0)) := fun w => lvar_any.mono fun _ _ ⟨v, e, b, o⟩ => ⟨v, e, b, o.mono (Nat.zero_le _)⟩
  have HLO : Hid (∀ w v, OwnQ 163 0 w v r → Calls Try.prog 50 #[v] w (Gives w fun v' w' => OwnX 0 w' v' [] r)) := fun w v h => (lof_any h).mono fun _ _ ⟨v, e, b, o⟩ => ⟨v, e, b, o.mono (Nat.zero_le _)⟩
  have Z1 : Hid (Sz 8 ((1 : Int) : Rat)) := (Sz.int 1 (by omega)).le (by decide)
  have Z3 : Hid (Sz 380 ((0 : Int) : Rat)) := (Sz.int 0 (by omega)).le (by decide)
  have Q1 : Hid ((((1 : Int) : Rat) - ((1 : Int) : Rat)).num.sign = 0) := by show _ = _; decide +kernel
  have Q0 : Hid ((0 : Rat).num.sign = 0) := by show _ = _; decide +kernel
  have QR : Hid ((r - r).num.sign = 0) := by show _ = _; rw [Rat.sub_self]; rfl
  generalize ((1 : Int) : Rat) = q1 at *
  generalize ((0 : Int) : Rat) = q3 at *
  have HCN : Hid (∀ w v, RdX w v la ca → Calls Try.prog 38 #[v] w (Gives w fun v' w' => ∃ l', FormT l' ∧ (∀ u, cf l' u = cf la u) ∧ Okx 380 l' ca ∧ l'.length ≤ 12 ∧ OwnX 0 w' v' l' ca)) := fun w v h =>
    (canon_any 8 h ZA.out.2.1 (by have := ZA.out.1; omega) (by decide)).mono fun _ _ ⟨v, e, b, l', hc, _, hl, o⟩ =>
      ⟨v, e, b, l', hc.1, hc.2, Okx.form hc.1 (by decide) (by have := ZA.out.1; omega) (fun x => by rw [hc.2]; exact (ZA.out.cf x).le (by decide)) (ZA.out.2.2.le (by decide)), Nat.le_trans hl ZA.out.1, o.mono (Nat.zero_le _)⟩
  have HVS : Hid (∀ l', FormT l' → (∀ u, cf l' u = cf la u) → ∀ w v, RdX w v la ca → Calls Try.prog 46 #[v] w (Gives w fun v' w' => RdRow 1 IntT w' v' (l'.map (·.1)))) := fun l' h1 h2 w v h =>
    (lvars_any 8 h ZA.out.2.1 (by have := ZA.out.1; omega) (by decide)).mono fun _ _ ⟨v, e, b, l2, hc, _, o⟩ => ⟨v, e, b, by
      rw [FormT.uniq h1 hc.1 (fun u => (h2 u).trans (hc.2 u).symm)]
      exact o⟩
  have HCO : Hid (∀ w v, RdX w v la ca → Calls Try.prog 48 #[v, .int .i64 x] w (Gives w fun v' w' => OwnQ 163 0 w' v' (cf la x))) := fun w v h => coef_any (x := x) 8 h ZA.out.2.1 (by have := ZA.out.1; omega) (by decide)
  have HCP : Hid (∀ w v, RdY w v la ca → Calls Try.prog 35 #[v, .int .i64 x] w (Gives w fun v' w' => OwnP 4 0 w' v' (cf la x))) := fun w v h => r8coef_any (x := x) 380 h ZA.out.okx.2.1 (ZA.out.okx.2.2.1 x) ZA.out.okx.1 (by decide)
  obtain ⟨w1, hw1, b1, c1, c2, -, -, -⟩ := bx2 w [.slice aa m0 ka, .bool g0, t1, t2] [.bool s2, t7, t8] 60 25
  have C1 := Lib.hid c1
  have C2 := Lib.hid c2
  have HW := Lib.hid hw1
  have SZ1 : Hid (w.heap.size + 1 < w1.heap.size) := World.block_lt_of_cell? w1 _ c2.c3.1
  clear hw1 c1 c2
  go_enter Try.func7, Try.ntmps7
  go_upto_region 1 with (fail)
  rw [← HW.out]
  clear HW
  obtain ⟨k0, k1, k2, k3⟩ := C1.out.c4
  go_wp2_with fail
  refine (HEA.out _ _ (HV0.out.ext b1)).mono ?_
  rintro e w2 ⟨_, rfl, b2, o2⟩
  obtain ⟨a, k, s, b, m, d, b', m', d', rfl, hlk, hkm, OX⟩ := o2.op
  clear o2 k0 k1 k2 k3
  obtain ⟨w3, hw3, b3, c3, -, -⟩ := bx1 w2 [.slice a la.length k, .bool s, .slice b m d, .slice b' m' d'] 63
  have HW := Lib.hid hw3
  have C3 := Lib.hid c3
  clear hw3 c3
  go_upto_region 2 with (fail)
  rw [← HW.out]
  clear HW
  obtain ⟨BX, hBX⟩ : ∃ BX, w2.heap.size = BX := ⟨_, rfl⟩
  rw [hBX] at C3 ⊢
  clear hBX
  have OX3 := Lib.hid (OX.out.rd.ext b3)
  have b03 := Ext.trans b1 (Ext.trans b2 b3)
  have b13 := Ext.trans b2 b3
  clear OX
  obtain ⟨k0, k1, k2, k3⟩ := (C1.out.ext b13).c4
  go_wp2_with fail
  refine (HEA.out _ _ (HV0.out.ext b03)).mono ?_
  rintro e w4 ⟨v4, rfl, b4, o4⟩
  have O4 := Lib.hid o4.rd
  clear o4 k0 k1 k2 k3
  go_wp2_with fail
  refine (HCN.out _ _ O4.out).mono ?_
  rintro e w5 ⟨_, rfl, b5, l', hf', hc', ho', hl', o5⟩
  have HF := Lib.hid hf'
  have HC := Lib.hid hc'
  have HO := Lib.hid ho'
  have OC := Lib.hid o5.rd
  obtain ⟨ac, kc, sc, bc, mc, dc, bc', mc', dc', rfl, hlc, hmc, HRW, -⟩ := o5.rd.op
  clear o5 hf' hc' ho'
  obtain ⟨w6, hw6, b6, c6, -, -⟩ := bx1 w5 [.slice ac l'.length kc, .bool sc, .slice bc mc dc, .slice bc' mc' dc'] 63
  have HW := Lib.hid hw6
  have C6 := Lib.hid c6
  clear hw6 c6
  go_upto_region 3 with (fail)
  rw [← HW.out]
  clear HW
  obtain ⟨BK, hBK⟩ : ∃ BK, w5.heap.size = BK := ⟨_, rfl⟩
  rw [hBK] at C6 ⊢
  clear hBK
  have OC6 := Lib.hid (OC.out.ext b6)
  have HRW6 := Lib.hid (HRW.out.ext OwnTm.ext b6)
  have b36 := Ext.trans b4 (Ext.trans b5 b6)
  have b06 := Ext.trans b03 b36
  clear OC HRW
  obtain ⟨k0, k1, k2, k3⟩ := (C1.out.ext (Ext.trans b13 b36)).c4
  go_wp2_with fail
  refine (HEA.out _ _ (HV0.out.ext b06)).mono ?_
  rintro e w7 ⟨v7, rfl, b7, o7⟩
  have O7 := Lib.hid o7.rd
  clear o7 k0 k1 k2 k3
  go_wp2_with fail
  refine (HVS.out _ HF.out HC.out _ _ O7.out).mono ?_
  rintro e w8 ⟨_, rfl, b8, o8⟩
  have HVN : Hid ((l'.map (·.1)).length = l'.length) := List.length_map ..
  have HVG : Hid (∀ i (hi : i < (l'.map (·.1)).length), (l'.map (·.1))[i] = (gt l' i).1) := fun i hi => by rw [List.getElem_map, gt_lt (by rwa [List.length_map] at hi)]
  generalize l'.map (·.1) = vs at *
  obtain ⟨av, kv, rfl, hvk, hvm⟩ := o8.shape
  have HV := Lib.hid o8
  clear o8
  obtain ⟨N, hN⟩ : ∃ N, vs.length = N := ⟨_, rfl⟩
  have hlN : l'.length = N := HVN.out.symm.trans hN
  have HNV := Lib.hid hN
  have HNL := Lib.hid hlN
  rw [hN] at HV hvk ⊢
  rw [hlN] at OC6 HRW6 hlc hl' C6
  clear hN hlN HVN
  have b38 := Ext.trans b36 (Ext.trans b7 b8)
  have b68 := Ext.trans b7 b8
  have b08 := Ext.trans b03 b38
  have D1 := Lib.hid (C1.out.ext (Ext.trans b13 b38))
  have D2 := Lib.hid (C2.out.ext (Ext.trans b13 b38))
  have DX := Lib.hid (C3.out.ext b38)
  have DK := Lib.hid (C6.out.ext b68)
  have SZ8 : Hid (w.heap.size + 1 < w8.heap.size) := by have h1 := SZ1.out; have h2 := Below.size (Ext.trans b13 b38); show _ < _; omega
  clear C1 C2 C3 C6 O4 O7 SZ1
  go_upto_region 4 with (fail)
  have HTX : Hid (∀ w', Ext w8 w' → Calls Try.prog 33 #[.agg #[.slice a la.length k, .bool s, .slice b m d, .slice b' m' d']] w' (Gives w' fun v' w' => RdY w' v' la ca)) := fun w' y => told8_ok (OX3.out.ext (Ext.trans b38 y)) ZA.out.okx
  have HTK : Hid (∀ w', Ext w8 w' → Calls Try.prog 33 #[.agg #[.slice ac N kc, .bool sc, .slice bc mc dc, .slice bc' mc' dc']] w' (Gives w' fun v' w' => RepY w' v' (fun u => cf la u) ca)) := fun w' y => (told8_ok (OC6.out.ext (Ext.trans b68 y)) HO.out).mono fun _ _ ⟨v, e, b, o⟩ => ⟨v, e, b, l', HF.out, HC.out, HO.out, o⟩
  have b9 := drew_ext w8
  have XE := b9
  refine wp_region_noPanic ?_
  refine wp_region_held_drew (S := fun w' => (w'.cell? ⟨w.heap.size, 0, none⟩ = some (.slice aa m0 ka) ∧ w'.cell? ⟨w.heap.size, 1, none⟩ = some (.bool g0) ∧ w'.cell? ⟨w.heap.size, 2, none⟩ = some (t1) ∧ w'.cell? ⟨w.heap.size, 3, none⟩ = some (t2)) ∧ (w'.cell? ⟨BX, 0, none⟩ = some (.slice a la.length k) ∧ w'.cell? ⟨BX, 1, none⟩ = some (.bool s) ∧ w'.cell? ⟨BX, 2, none⟩ = some (.slice b m d) ∧ w'.cell? ⟨BX, 3, none⟩ = some (.slice b' m' d')) ∧ (w'.cell? ⟨BK, 0, none⟩ = some (.slice ac N kc) ∧ w'.cell? ⟨BK, 1, none⟩ = some (.bool sc) ∧ w'.cell? ⟨BK, 2, none⟩ = some (.slice bc mc dc) ∧ w'.cell? ⟨BK, 3, none⟩ = some (.slice bc' mc' dc'))) (by kernel_rfl) (⟨(D1.out.ext XE).c4, (DX.out.ext XE).c4, (DK.out.ext XE).c4⟩) (fun hHeld => ?_)
  refine wpAnyH_ready (rs := [0]) (by kernel_rfl) (by simp) ?_
  refine AllReadyH.cons (o := _) rfl (fun K hK => ?_) AllReadyH.nil
  go_simp
  go_at_call 36; refine (awake08).mono ?_; rintro e w10 ⟨_, rfl, b10, rfl⟩; (first | have XE := Ext.trans XE b10 | have XE := Ext.trans (Ext.trans XE (Ext.alloc _ _)) b10)
  go_wp2_with fail
  refine hK.out _ _ (⟨(D1.out.ext XE).c4, (DX.out.ext XE).c4, (DK.out.ext XE).c4⟩) (fun hHeld => ?_)
  clear hK K
  try simp only [Act.put, List.getElem_toArray, List.getElem_cons_succ, List.getElem_cons_zero, List.setIfInBounds_toArray, List.set_cons_zero, List.set_cons_succ]
  refine wpAnyH_take (i := 1) (v := ?_) rfl (by kernel_rfl) (by kernel_rfl) (by kernel_rfl) (fun _ _ _ h => h) (Or.inl ⟨by rfl, fun w0 hSw => ?_⟩) hHeld ?_
  rotate_left
  · (try dsimp only at hSw)
    go_simp
    try with_reducible rfl
  simp only [Act.put, List.getElem_toArray, List.getElem_cons_succ, List.getElem_cons_zero, List.setIfInBounds_toArray, List.set_cons_zero, List.set_cons_succ]
  refine wpAnyH_take (i := 2) (v := ?_) rfl (by kernel_rfl) (by kernel_rfl) (by kernel_rfl) (fun _ _ _ h => h) (Or.inl ⟨by rfl, fun w0 hSw => ?_⟩) hHeld ?_
  rotate_left
  · (try dsimp only at hSw)
    go_simp
    try with_reducible rfl
  simp only [Act.put, List.getElem_toArray, List.getElem_cons_succ, List.getElem_cons_zero, List.setIfInBounds_toArray, List.set_cons_zero, List.set_cons_succ]
  refine wpAnyH_take (i := 3) (v := ?_) rfl (by kernel_rfl) (by kernel_rfl) (by kernel_rfl) (fun _ _ _ h => h) (Or.inl ⟨by rfl, fun w0 hSw => ?_⟩) hHeld ?_
  rotate_left
  · (try dsimp only at hSw)
    go_simp
    try with_reducible rfl
  simp only [Act.put, List.getElem_toArray, List.getElem_cons_succ, List.getElem_cons_zero, List.setIfInBounds_toArray, List.set_cons_zero, List.set_cons_succ]
  refine wpAnyH_take (i := 6) (v := ?_) rfl (by kernel_rfl) (by kernel_rfl) (by kernel_rfl) (fun _ _ _ h => h) (Or.inl ⟨by rfl, fun w0 hSw => ?_⟩) hHeld ?_
  rotate_left
  · (try dsimp only at hSw)
    go_simp
    try with_reducible rfl
  simp only [Act.put, List.getElem_toArray, List.getElem_cons_succ, List.getElem_cons_zero, List.setIfInBounds_toArray, List.set_cons_zero, List.set_cons_succ]
  refine wpAnyH_take (i := 9) (v := ?_) rfl (by kernel_rfl) (by kernel_rfl) (by kernel_rfl) (fun _ _ _ h => h) (Or.inl ⟨by rfl, fun w0 hSw => ?_⟩) hHeld ?_
  rotate_left
  · (try dsimp only at hSw)
    go_simp
    try with_reducible rfl
  simp only [Act.put, List.getElem_toArray, List.getElem_cons_succ, List.getElem_cons_zero, List.setIfInBounds_toArray, List.set_cons_zero, List.set_cons_succ]
  refine wpAnyH_ready (rs := [4]) (by kernel_rfl) (by simp) ?_
  refine AllReadyH.cons (o := _) rfl (fun K hK => ?_) AllReadyH.nil
  go_simp
  go_at_call 33; refine (HTK.out _ XE).mono ?_; rintro e w11 ⟨v11, rfl, b11, o11⟩; have O11 := Lib.hid o11; clear o11; (first | have XE := Ext.trans XE b11 | have XE := Ext.trans (Ext.trans XE (Ext.alloc _ _)) b11)
  go_wp2_with fail
  refine hK.out _ _ (⟨(D1.out.ext XE).c4, (DX.out.ext XE).c4, (DK.out.ext XE).c4⟩) (fun hHeld => ?_)
  clear hK K
  try simp only [Act.put, List.getElem_toArray, List.getElem_cons_succ, List.getElem_cons_zero, List.setIfInBounds_toArray, List.set_cons_zero, List.set_cons_succ]
  refine wpAnyH_ready (rs := [5]) (by kernel_rfl) (by simp) ?_
  refine AllReadyH.cons (o := _) rfl (fun K hK => ?_) AllReadyH.nil
  go_simp
  go_at_call 41; refine (I1.out _).mono ?_; rintro e w12 ⟨v12, rfl, b12, o12⟩; have O12 := Lib.hid o12; clear o12; (first | have XE := Ext.trans XE b12 | have XE := Ext.trans (Ext.trans XE (Ext.alloc _ _)) b12)
  go_wp2_with fail
  refine hK.out _ _ (⟨(D1.out.ext XE).c4, (DX.out.ext XE).c4, (DK.out.ext XE).c4⟩) (fun hHeld => ?_)
  clear hK K
  try simp only [Act.put, List.getElem_toArray, List.getElem_cons_succ, List.getElem_cons_zero, List.setIfInBounds_toArray, List.set_cons_zero, List.set_cons_succ]
  refine wpAnyH_ready (rs := [7]) (by kernel_rfl) (by simp) ?_
  refine AllReadyH.cons (o := _) rfl (fun K hK => ?_) AllReadyH.nil
  go_simp
  go_at_call 33; refine (HTX.out _ XE).mono ?_; rintro e w13 ⟨v13, rfl, b13, o13⟩; have O13 := Lib.hid o13; clear o13; (first | have XE := Ext.trans XE b13 | have XE := Ext.trans (Ext.trans XE (Ext.alloc _ _)) b13)
  go_wp2_with fail
  refine hK.out _ _ (⟨(D1.out.ext XE).c4, (DX.out.ext XE).c4, (DK.out.ext XE).c4⟩) (fun hHeld => ?_)
  clear hK K
  try simp only [Act.put, List.getElem_toArray, List.getElem_cons_succ, List.getElem_cons_zero, List.setIfInBounds_toArray, List.set_cons_zero, List.set_cons_succ]
  refine wpAnyH_ready (rs := [8]) (by kernel_rfl) (by simp) ?_
  refine AllReadyH.cons (o := _) rfl (fun K hK => ?_) AllReadyH.nil
  go_simp
  go_at_call 41; refine (I3.out _).mono ?_; rintro e w14 ⟨v14, rfl, b14, o14⟩; have O14 := Lib.hid o14; clear o14; (first | have XE := Ext.trans XE b14 | have XE := Ext.trans (Ext.trans XE (Ext.alloc _ _)) b14)
  go_wp2_with fail
  refine hK.out _ _ (⟨(D1.out.ext XE).c4, (DX.out.ext XE).c4, (DK.out.ext XE).c4⟩) (fun hHeld => ?_)
  clear hK K
  try simp only [Act.put, List.getElem_toArray, List.getElem_cons_succ, List.getElem_cons_zero, List.setIfInBounds_toArray, List.set_cons_zero, List.set_cons_succ]
  refine wpAnyH_ready (rs := [10]) (by kernel_rfl) (by simp) ?_
  refine AllReadyH.cons (o := _) rfl (fun K hK => ?_) AllReadyH.nil
  go_simp
  go_at_call 33; refine (HTX.out _ XE).mono ?_; rintro e w15 ⟨v15, rfl, b15, o15⟩; have O15 := Lib.hid o15; clear o15; (first | have XE := Ext.trans XE b15 | have XE := Ext.trans (Ext.trans XE (Ext.alloc _ _)) b15)
  go_wp2_with fail
  refine hK.out _ _ (⟨(D1.out.ext XE).c4, (DX.out.ext XE).c4, (DK.out.ext XE).c4⟩) (fun hHeld => ?_)
  clear hK K
  try simp only [Act.put, List.getElem_toArray, List.getElem_cons_succ, List.getElem_cons_zero, List.setIfInBounds_toArray, List.set_cons_zero, List.set_cons_succ]
  refine wpAnyH_ready (rs := [11]) (by kernel_rfl) (by simp) ?_
  refine AllReadyH.cons (o := _) rfl (fun K hK => ?_) AllReadyH.nil
  go_simp
  go_at_call 39; refine (rep_means (O11.out.ext (Ext.trans b12 (Ext.trans b13 (Ext.trans b14 b15)))) (O12.out.ext (Ext.trans b13 (Ext.trans b14 b15))) (O13.out.ext (Ext.trans b14 b15)) (O14.out.ext b15) O15.out (Z1.out.le (by decide)) ZA.out.okx Z3.out ZA.out.okx M1.out.1 M1.out.2).mono ?_; rintro e w16 ⟨_, rfl, b16, rfl⟩; (first | have XE := Ext.trans XE b16 | have XE := Ext.trans (Ext.trans XE (Ext.alloc _ _)) b16)
  go_wp2_with fail
  refine hK.out _ _ (⟨(D1.out.ext XE).c4, (DX.out.ext XE).c4, (DK.out.ext XE).c4⟩) (fun hHeld => ?_)
  clear hK K
  try simp only [Act.put, List.getElem_toArray, List.getElem_cons_succ, List.getElem_cons_zero, List.setIfInBounds_toArray, List.set_cons_zero, List.set_cons_succ]
  refine wpAnyH_take (i := 12) (v := ?_) rfl (by kernel_rfl) (by kernel_rfl) (by kernel_rfl) (fun _ _ _ h => h) (Or.inl ⟨by rfl, fun w0 hSw => ?_⟩) hHeld ?_
  rotate_left
  · (try dsimp only at hSw)
    go_simp
    try with_reducible rfl
  simp only [Act.put, List.getElem_toArray, List.getElem_cons_succ, List.getElem_cons_zero, List.setIfInBounds_toArray, List.set_cons_zero, List.set_cons_succ]
  refine wpAnyH_take (i := 13) (v := ?_) rfl (by kernel_rfl) (by kernel_rfl) (by kernel_rfl) (fun _ _ _ h => h) (Or.inl ⟨by rfl, fun w0 hSw => ?_⟩) hHeld ?_
  rotate_left
  · (try dsimp only at hSw)
    go_simp
    try with_reducible rfl
  simp only [Act.put, List.getElem_toArray, List.getElem_cons_succ, List.getElem_cons_zero, List.setIfInBounds_toArray, List.set_cons_zero, List.set_cons_succ]
  refine wpAnyH_take (i := 14) (v := ?_) rfl (by kernel_rfl) (by kernel_rfl) (by kernel_rfl) (fun _ _ _ h => h) (Or.inl ⟨by rfl, fun w0 hSw => ?_⟩) hHeld ?_
  rotate_left
  · (try dsimp only at hSw)
    go_simp
    try with_reducible rfl
  simp only [Act.put, List.getElem_toArray, List.getElem_cons_succ, List.getElem_cons_zero, List.setIfInBounds_toArray, List.set_cons_zero, List.set_cons_succ]
  refine wpAnyH_take (i := 15) (v := ?_) rfl (by kernel_rfl) (by kernel_rfl) (by kernel_rfl) (fun _ _ _ h => h) (Or.inl ⟨by rfl, fun w0 hSw => ?_⟩) hHeld ?_
  rotate_left
  · (try dsimp only at hSw)
    go_simp
    try with_reducible rfl
  simp only [Act.put, List.getElem_toArray, List.getElem_cons_succ, List.getElem_cons_zero, List.setIfInBounds_toArray, List.set_cons_zero, List.set_cons_succ]
  refine wpAnyH_take (i := 17) (v := ?_) rfl (by kernel_rfl) (by kernel_rfl) (by kernel_rfl) (fun _ _ _ h => h) (Or.inl ⟨by rfl, fun w0 hSw => ?_⟩) hHeld ?_
  rotate_left
  · (try dsimp only at hSw)
    go_simp
    try with_reducible rfl
  simp only [Act.put, List.getElem_toArray, List.getElem_cons_succ, List.getElem_cons_zero, List.setIfInBounds_toArray, List.set_cons_zero, List.set_cons_succ]
  refine wpAnyH_take (i := 19) (v := ?_) rfl (by kernel_rfl) (by kernel_rfl) (by kernel_rfl) (fun _ _ _ h => h) (Or.inl ⟨by rfl, fun w0 hSw => ?_⟩) hHeld ?_
  rotate_left
  · (try dsimp only at hSw)
    go_simp
    try with_reducible rfl
  simp only [Act.put, List.getElem_toArray, List.getElem_cons_succ, List.getElem_cons_zero, List.setIfInBounds_toArray, List.set_cons_zero, List.set_cons_succ]
  refine wpAnyH_take (i := 21) (v := ?_) rfl (by kernel_rfl) (by kernel_rfl) (by kernel_rfl) (fun _ _ _ h => h) (Or.inl ⟨by rfl, fun w0 hSw => ?_⟩) hHeld ?_
  rotate_left
  · (try dsimp only at hSw)
    go_simp
    try with_reducible rfl
  simp only [Act.put, List.getElem_toArray, List.getElem_cons_succ, List.getElem_cons_zero, List.setIfInBounds_toArray, List.set_cons_zero, List.set_cons_succ]
  refine wpAnyH_ready (rs := [16]) (by kernel_rfl) (by simp) ?_
  refine AllReadyH.cons (o := _) rfl (fun K hK => ?_) AllReadyH.nil
  go_simp
  go_at_call 31; refine (HEA.out _ _ (HV0.out.ext (Ext.trans b08 XE))).mono ?_; rintro e w17 ⟨v17, rfl, b17, o17⟩; have O17 := Lib.hid o17; clear o17; (first | have XE := Ext.trans XE b17 | have XE := Ext.trans (Ext.trans XE (Ext.alloc _ _)) b17)
  go_wp2_with fail
  refine hK.out _ _ (⟨(D1.out.ext XE).c4, (DX.out.ext XE).c4, (DK.out.ext XE).c4⟩) (fun hHeld => ?_)
  clear hK K
  try simp only [Act.put, List.getElem_toArray, List.getElem_cons_succ, List.getElem_cons_zero, List.setIfInBounds_toArray, List.set_cons_zero, List.set_cons_succ]
  refine wpAnyH_ready (rs := [18]) (by kernel_rfl) (by simp) ?_
  refine AllReadyH.cons (o := _) rfl (fun K hK => ?_) AllReadyH.nil
  go_simp
  go_at_call 48; refine (HCO.out _ _ O17.out.rd).mono ?_; rintro e w18 ⟨v18, rfl, b18, o18⟩; have O18 := Lib.hid o18; clear o18; (first | have XE := Ext.trans XE b18 | have XE := Ext.trans (Ext.trans XE (Ext.alloc _ _)) b18)
  go_wp2_with fail
  refine hK.out _ _ (⟨(D1.out.ext XE).c4, (DX.out.ext XE).c4, (DK.out.ext XE).c4⟩) (fun hHeld => ?_)
  clear hK K
  try simp only [Act.put, List.getElem_toArray, List.getElem_cons_succ, List.getElem_cons_zero, List.setIfInBounds_toArray, List.set_cons_zero, List.set_cons_succ]
  refine wpAnyH_ready (rs := [20]) (by kernel_rfl) (by simp) ?_
  refine AllReadyH.cons (o := _) rfl (fun K hK => ?_) AllReadyH.nil
  go_simp
  go_at_call 33; refine (HTX.out _ XE).mono ?_; rintro e w19 ⟨v19, rfl, b19, o19⟩; have O19 := Lib.hid o19; clear o19; (first | have XE := Ext.trans XE b19 | have XE := Ext.trans (Ext.trans XE (Ext.alloc _ _)) b19)
  go_wp2_with fail
  refine hK.out _ _ (⟨(D1.out.ext XE).c4, (DX.out.ext XE).c4, (DK.out.ext XE).c4⟩) (fun hHeld => ?_)
  clear hK K
  try simp only [Act.put, List.getElem_toArray, List.getElem_cons_succ, List.getElem_cons_zero, List.setIfInBounds_toArray, List.set_cons_zero, List.set_cons_succ]
  refine wpAnyH_ready (rs := [22]) (by kernel_rfl) (by simp) ?_
  refine AllReadyH.cons (o := _) rfl (fun K hK => ?_) AllReadyH.nil
  go_simp
  go_at_call 35; refine (HCP.out _ _ O19.out).mono ?_; rintro e w20 ⟨v20, rfl, b20, o20⟩; have O20 := Lib.hid o20; clear o20; (first | have XE := Ext.trans XE b20 | have XE := Ext.trans (Ext.trans XE (Ext.alloc _ _)) b20)
  go_wp2_with fail
  refine hK.out _ _ (⟨(D1.out.ext XE).c4, (DX.out.ext XE).c4, (DK.out.ext XE).c4⟩) (fun hHeld => ?_)
  clear hK K
  try simp only [Act.put, List.getElem_toArray, List.getElem_cons_succ, List.getElem_cons_zero, List.setIfInBounds_toArray, List.set_cons_zero, List.set_cons_succ]
  refine wpAnyH_ready (rs := [23]) (by kernel_rfl) (by simp) ?_
  refine AllReadyH.cons (o := _) rfl (fun K hK => ?_) AllReadyH.nil
  go_simp
  go_at_call 47; refine (is_yes (O18.out.rd.ext (Ext.trans b19 b20)) O20.out.rd ((ZA.out.cf x).le (by decide))).mono ?_; rintro e w21 ⟨_, rfl, b21, rfl⟩; (first | have XE := Ext.trans XE b21 | have XE := Ext.trans (Ext.trans XE (Ext.alloc _ _)) b21)
  go_wp2_with fail
  refine hK.out _ _ (⟨(D1.out.ext XE).c4, (DX.out.ext XE).c4, (DK.out.ext XE).c4⟩) (fun hHeld => ?_)
  clear hK K
  try simp only [Act.put, List.getElem_toArray, List.getElem_cons_succ, List.getElem_cons_zero, List.setIfInBounds_toArray, List.set_cons_zero, List.set_cons_succ]
  refine wpAnyH_take (i := 24) (v := ?_) rfl (by kernel_rfl) (by kernel_rfl) (by kernel_rfl) (fun _ _ _ h => h) (Or.inl ⟨by rfl, fun w0 hSw => ?_⟩) hHeld ?_
  rotate_left
  · (try dsimp only at hSw)
    go_simp
    try with_reducible rfl
  simp only [Act.put, List.getElem_toArray, List.getElem_cons_succ, List.getElem_cons_zero, List.setIfInBounds_toArray, List.set_cons_zero, List.set_cons_succ]
  refine wpAnyH_take (i := 25) (v := ?_) rfl (by kernel_rfl) (by kernel_rfl) (by kernel_rfl) (fun _ _ _ h => h) (Or.inl ⟨by rfl, fun w0 hSw => ?_⟩) hHeld ?_
  rotate_left
  · (try dsimp only at hSw)
    go_simp
    try with_reducible rfl
  simp only [Act.put, List.getElem_toArray, List.getElem_cons_succ, List.getElem_cons_zero, List.setIfInBounds_toArray, List.set_cons_zero, List.set_cons_succ]
  refine wpAnyH_take (i := 26) (v := ?_) rfl (by kernel_rfl) (by kernel_rfl) (by kernel_rfl) (fun _ _ _ h => h) (Or.inl ⟨by rfl, fun w0 hSw => ?_⟩) hHeld ?_
  rotate_left
  · (try dsimp only at hSw)
    go_simp
    try with_reducible rfl
  simp only [Act.put, List.getElem_toArray, List.getElem_cons_succ, List.getElem_cons_zero, List.setIfInBounds_toArray, List.set_cons_zero, List.set_cons_succ]
  refine wpAnyH_take (i := 27) (v := ?_) rfl (by kernel_rfl) (by kernel_rfl) (by kernel_rfl) (fun _ _ _ h => h) (Or.inl ⟨by rfl, fun w0 hSw => ?_⟩) hHeld ?_
  rotate_left
  · (try dsimp only at hSw)
    go_simp
    try with_reducible rfl
  simp only [Act.put, List.getElem_toArray, List.getElem_cons_succ, List.getElem_cons_zero, List.setIfInBounds_toArray, List.set_cons_zero, List.set_cons_succ]
  refine wpAnyH_take (i := 28) (v := ?_) rfl (by kernel_rfl) (by kernel_rfl) (by kernel_rfl) (fun _ _ _ h => h) (Or.inl ⟨by rfl, fun w0 hSw => ?_⟩) hHeld ?_
  rotate_left
  · (try dsimp only at hSw)
    go_simp
    try with_reducible rfl
  simp only [Act.put, List.getElem_toArray, List.getElem_cons_succ, List.getElem_cons_zero, List.setIfInBounds_toArray, List.set_cons_zero, List.set_cons_succ]
  refine wpAnyH_take (i := 29) (v := ?_) rfl (by kernel_rfl) (by kernel_rfl) (by kernel_rfl) (fun _ _ _ h => h) (Or.inl ⟨by rfl, fun w0 hSw => ?_⟩) hHeld ?_
  rotate_left
  · (try dsimp only at hSw)
    go_simp
    try with_reducible rfl
  simp only [Act.put, List.getElem_toArray, List.getElem_cons_succ, List.getElem_cons_zero, List.setIfInBounds_toArray, List.set_cons_zero, List.set_cons_succ]
  refine wpAnyH_take (i := 30) (v := ?_) rfl (by kernel_rfl) (by kernel_rfl) (by kernel_rfl) (fun _ _ _ h => h) (Or.inl ⟨by rfl, fun w0 hSw => ?_⟩) hHeld ?_
  rotate_left
  · (try dsimp only at hSw)
    go_simp
    try with_reducible rfl
  simp only [Act.put, List.getElem_toArray, List.getElem_cons_succ, List.getElem_cons_zero, List.setIfInBounds_toArray, List.set_cons_zero, List.set_cons_succ]
  refine wpAnyH_take (i := 31) (v := ?_) rfl (by kernel_rfl) (by kernel_rfl) (by kernel_rfl) (fun _ _ _ h => h) (Or.inl ⟨by rfl, fun w0 hSw => ?_⟩) hHeld ?_
  rotate_left
  · (try dsimp only at hSw)
    go_simp
    try with_reducible rfl
  simp only [Act.put, List.getElem_toArray, List.getElem_cons_succ, List.getElem_cons_zero, List.setIfInBounds_toArray, List.set_cons_zero, List.set_cons_succ]
  refine wpAnyH_take (i := 32) (v := ?_) rfl (by kernel_rfl) (by kernel_rfl) (by kernel_rfl) (fun _ _ _ h => h) (Or.inl ⟨by rfl, fun w0 hSw => ?_⟩) hHeld ?_
  rotate_left
  · (try dsimp only at hSw)
    go_simp
    try with_reducible rfl
  simp only [Act.put, List.getElem_toArray, List.getElem_cons_succ, List.getElem_cons_zero, List.setIfInBounds_toArray, List.set_cons_zero, List.set_cons_succ]
  refine wpAnyH_take (i := 33) (v := ?_) rfl (by kernel_rfl) (by kernel_rfl) (by kernel_rfl) (fun _ _ _ h => h) (Or.inl ⟨by rfl, fun w0 hSw => ?_⟩) hHeld ?_
  rotate_left
  · (try dsimp only at hSw)
    go_simp
    try with_reducible rfl
  simp only [Act.put, List.getElem_toArray, List.getElem_cons_succ, List.getElem_cons_zero, List.setIfInBounds_toArray, List.set_cons_zero, List.set_cons_succ]
  refine wpAnyH_done (by kernel_rfl) ?_ _
  refine NoPanic.normal ?_
  have b821 : Ext w8 w21 := XE
  have E1 := Lib.hid (D1.out.ext b821)
  have E2 := Lib.hid (D2.out.ext b821)
  have EK := Lib.hid (DK.out.ext b821)
  have b021 := Ext.trans b08 b821
  have HV21 := Lib.hid (HV.out.ext IntT.ext b821)
  have HRW21 := Lib.hid (HRW6.out.ext OwnTm.ext (Ext.trans b68 b821))
  have SZ21 : Hid (w.heap.size + 1 < w21.heap.size) := by have h1 := SZ8.out; have h2 := Below.size b821; show _ < _; omega
  clear D1 D2 DX DK O11 O12 O13 O14 O15 O17 O18 O19 O20 HTX HTK SZ8 HV HRW6
  go_wp2_with fail
  go_loopw [57] (fun t wr => ∃ i : Nat, t = .int .i64 i ∧ i ≤ N ∧ Ext w21 wr) (fun t _ => N - (intOf t).toNat)
  case atStart => exact ⟨0, rfl, Nat.zero_le _, Ext.refl _⟩
  case round =>
    obtain ⟨i, rfl, hi, hx⟩ := hrel
    by_cases hil : i < N
    · have hd : decide ((i : Int) < (N : Int)) = true := decide_eq_true (by omega)
      have hiv : i < vs.length := by rw [HNV.out]; exact hil
      have hi' : i < l'.length := by rw [HNL.out]; exact hil
      obtain ⟨bV, oV, rfl⟩ := HV21.out.some_atI hiv
      have hM1 : IntKind.i64.wrap (i : Int) = (i : Int) := by rw [IntKind.wrap_i64]; omega
      have hM2 : (0 : Int) ≤ (i : Int) ∧ (i : Int) < (N : Int) := ⟨by omega, by omega⟩
      have hcl := HV21.out.int i hiv
      rw [HVG.out i hiv] at hcl
      obtain ⟨bT, oT, rfl⟩ := HRW21.out.some_at hi'
      obtain ⟨sx, ax, lx, mx, ay, ly, my, hB4, -⟩ := HRW21.out.tm i hi'
      generalize (gt l' i).1 = y at *
      obtain ⟨w22, hw22⟩ : ∃ w0 : World, w0 = wr := ⟨_, rfl⟩
      subst hw22
      have CV : Hid (Cl w22 bV (oV + i) (.int .i64 y)) := Ext.cell hx hcl
      have CT := Lib.hid (hB4.ext hx)
      have FK := Lib.hid (EK.out.ext hx)
      clear hcl hB4 hiv hi'
      go_upto_region 9 with (fail)
      have b23 := drew_ext w22
      have XE := b23
      refine wp_region_noPanic ?_
      refine wp_region_held_drew (S := fun w' => (w'.cell? ⟨bV, oV + i, none⟩ = some (.int .i64 y)) ∧ (w'.cell? ⟨BK, 0, none⟩ = some (.slice (some ⟨bT, oT, none⟩) N kc) ∧ w'.cell? ⟨BK, 1, none⟩ = some (.bool sc) ∧ w'.cell? ⟨BK, 2, none⟩ = some (.slice bc mc dc) ∧ w'.cell? ⟨BK, 3, none⟩ = some (.slice bc' mc' dc')) ∧ (w'.cell? ⟨bT, oT + i * 4, none⟩ = some (.int .i64 y) ∧ w'.cell? ⟨bT, oT + i * 4 + 1, none⟩ = some (.bool sx) ∧ w'.cell? ⟨bT, oT + i * 4 + 2, none⟩ = some (.slice ax lx mx) ∧ w'.cell? ⟨bT, oT + i * 4 + 3, none⟩ = some (.slice ay ly my))) (by kernel_rfl) (⟨CV.out.ext XE, (FK.out.ext XE).c4, CT.out.ext XE⟩) (fun hHeld => ?_)
      refine wpAnyH_take (i := 0) (v := ?_) rfl (by kernel_rfl) (by kernel_rfl) (by kernel_rfl) (fun _ _ _ h => h) (Or.inl ⟨by rfl, fun w0 hSw => ?_⟩) hHeld ?_
      rotate_left
      · (try dsimp only at hSw)
        go_simp
        try with_reducible rfl
      simp only [Act.put, List.getElem_toArray, List.getElem_cons_succ, List.getElem_cons_zero, List.setIfInBounds_toArray, List.set_cons_zero, List.set_cons_succ]
      refine wpAnyH_take (i := 1) (v := ?_) rfl (by kernel_rfl) (by kernel_rfl) (by kernel_rfl) (fun _ _ _ h => h) (Or.inl ⟨by rfl, fun w0 hSw => ?_⟩) hHeld ?_
      rotate_left
      · (try dsimp only at hSw)
        go_simp
        try with_reducible rfl
      simp only [Act.put, List.getElem_toArray, List.getElem_cons_succ, List.getElem_cons_zero, List.setIfInBounds_toArray, List.set_cons_zero, List.set_cons_succ]
      refine wpAnyH_take (i := 2) (v := ?_) rfl (by kernel_rfl) (by kernel_rfl) (by kernel_rfl) (fun _ _ _ h => h) (Or.inl ⟨by rfl, fun w0 hSw => ?_⟩) hHeld ?_
      rotate_left
      · (try dsimp only at hSw)
        go_simp
        try with_reducible rfl
      simp only [Act.put, List.getElem_toArray, List.getElem_cons_succ, List.getElem_cons_zero, List.setIfInBounds_toArray, List.set_cons_zero, List.set_cons_succ]
      refine wpAnyH_take (i := 3) (v := ?_) rfl (by kernel_rfl) (by kernel_rfl) (by kernel_rfl) (fun _ _ _ h => h) (Or.inl ⟨by rfl, fun w0 hSw => ?_⟩) hHeld ?_
      rotate_left
      · (try dsimp only at hSw)
        go_simp
        try with_reducible rfl
      simp only [Act.put, List.getElem_toArray, List.getElem_cons_succ, List.getElem_cons_zero, List.setIfInBounds_toArray, List.set_cons_zero, List.set_cons_succ]
      refine wpAnyH_take (i := 4) (v := ?_) rfl (by kernel_rfl) (by kernel_rfl) (by kernel_rfl) (fun _ _ _ h => h) (Or.inl ⟨by rfl, fun w0 hSw => ?_⟩) hHeld ?_
      rotate_left
      · (try dsimp only at hSw)
        go_simp
        try with_reducible rfl
      simp only [Act.put, List.getElem_toArray, List.getElem_cons_succ, List.getElem_cons_zero, List.setIfInBounds_toArray, List.set_cons_zero, List.set_cons_succ]
      refine wpAnyH_take (i := 5) (v := ?_) rfl (by kernel_rfl) (by kernel_rfl) (by kernel_rfl) (fun _ _ _ h => h) (Or.inl ⟨by rfl, fun w0 hSw => ?_⟩) hHeld ?_
      rotate_left
      · (try dsimp only at hSw)
        go_simp
        try with_reducible rfl
      simp only [Act.put, List.getElem_toArray, List.getElem_cons_succ, List.getElem_cons_zero, List.setIfInBounds_toArray, List.set_cons_zero, List.set_cons_succ]
      refine wpAnyH_take (i := 6) (v := ?_) rfl (by kernel_rfl) (by kernel_rfl) (by kernel_rfl) (fun _ _ _ h => h) (Or.inl ⟨by rfl, fun w0 hSw => ?_⟩) hHeld ?_
      rotate_left
      · (try dsimp only at hSw)
        go_simp
        try with_reducible rfl
      simp only [Act.put, List.getElem_toArray, List.getElem_cons_succ, List.getElem_cons_zero, List.setIfInBounds_toArray, List.set_cons_zero, List.set_cons_succ]
      refine wpAnyH_take (i := 7) (v := ?_) rfl (by kernel_rfl) (by kernel_rfl) (by kernel_rfl) (fun _ _ _ h => h) (Or.inl ⟨by rfl, fun w0 hSw => ?_⟩) hHeld ?_
      rotate_left
      · (try dsimp only at hSw)
        go_simp
        try with_reducible rfl
      simp only [Act.put, List.getElem_toArray, List.getElem_cons_succ, List.getElem_cons_zero, List.setIfInBounds_toArray, List.set_cons_zero, List.set_cons_succ]
      refine wpAnyH_take (i := 8) (v := ?_) rfl (by kernel_rfl) (by kernel_rfl) (by kernel_rfl) (fun _ _ _ h => h) (Or.inl ⟨by rfl, fun w0 hSw => ?_⟩) hHeld ?_
      rotate_left
      · (try dsimp only at hSw)
        go_simp
        try with_reducible rfl
      simp only [Act.put, List.getElem_toArray, List.getElem_cons_succ, List.getElem_cons_zero, List.setIfInBounds_toArray, List.set_cons_zero, List.set_cons_succ]
      refine wpAnyH_take (i := 9) (v := ?_) rfl (by kernel_rfl) (by kernel_rfl) (by kernel_rfl) (fun _ _ _ h => h) (Or.inl ⟨by rfl, fun w0 hSw => ?_⟩) hHeld ?_
      rotate_left
      · (try dsimp only at hSw)
        go_simp
        try with_reducible rfl
      simp only [Act.put, List.getElem_toArray, List.getElem_cons_succ, List.getElem_cons_zero, List.setIfInBounds_toArray, List.set_cons_zero, List.set_cons_succ]
      refine wpAnyH_take (i := 10) (v := ?_) rfl (by kernel_rfl) (by kernel_rfl) (by kernel_rfl) (fun _ _ _ h => h) (Or.inl ⟨by rfl, fun w0 hSw => ?_⟩) hHeld ?_
      rotate_left
      · (try dsimp only at hSw)
        go_simp
        try with_reducible rfl
      simp only [Act.put, List.getElem_toArray, List.getElem_cons_succ, List.getElem_cons_zero, List.setIfInBounds_toArray, List.set_cons_zero, List.set_cons_succ]
      refine wpAnyH_done (by kernel_rfl) ?_ _
      refine NoPanic.normal ?_
      go_wp2_with fail
      go_roundw
      case rel => exact ⟨i + 1, by go_num, by omega, Ext.trans hx XE⟩
      case measure => simp [intOf] <;> omega
    · obtain rfl : i = N := by omega
      have hd : decide ((i : Int) < (i : Int)) = false := decide_eq_false (by omega)
      obtain ⟨w22, hw22⟩ : ∃ w0 : World, w0 = wr := ⟨_, rfl⟩
      subst hw22
      have F2 := Lib.hid (E2.out.ext hx)
      have b022 := Ext.trans b021 hx
      have SZ22 : Hid (w.heap.size + 1 < w22.heap.size) := by have h1 := SZ21.out; have h2 := Below.size hx; show _ < _; omega
      clear E1 E2 EK HV21 HRW21
      go_upto_region 12 with (fail)
      go_cut [11, 12] (fun s5 s6 wx => ∃ (B5 B6 : Nat) (x0 x1 x2 x3 y0 y1 y2 y3 : Value), s5 = .pointer (some ⟨B5, 0, none⟩) ∧ s6 = .pointer (some ⟨B6, 0, none⟩) ∧ Ext w22 wx ∧ Hid (Bx wx B5 [x0, x1, x2, x3]) ∧ Hid (Bx wx B6 [y0, y1, y2, y3]) ∧ Hid (OwnX 0 wx (.agg #[x0, x1, x2, x3]) [(x, q1)] 0) ∧ Hid (OwnX 0 wx (.agg #[y0, y1, y2, y3]) [] r))
      case first =>
        as_aux_lemma =>
          refine wp_region_noPanic ?_
          refine wp_region_held_drew (S := fun w' => w'.cell? ⟨w.heap.size + 1, 0, none⟩ = some (.bool s2) ∧ w'.cell? ⟨w.heap.size + 1, 1, none⟩ = some (t7) ∧ w'.cell? ⟨w.heap.size + 1, 2, none⟩ = some (t8)) (by kernel_rfl) ((F2.out.ext (drew_ext w22)).c3) (fun hHeld => ?_)
          refine wpAnyH_take (i := 0) (v := ?_) rfl (by kernel_rfl) (by kernel_rfl) (by kernel_rfl) (fun _ _ _ h => h) (Or.inl ⟨by rfl, fun w0 hSw => ?_⟩) hHeld ?_
          rotate_left
          · (try dsimp only at hSw)
            go_simp
            try with_reducible rfl
          simp only [Act.put, List.getElem_toArray, List.getElem_cons_succ, List.getElem_cons_zero, List.setIfInBounds_toArray, List.set_cons_zero, List.set_cons_succ]
          refine wpAnyH_take (i := 2) (v := ?_) rfl (by kernel_rfl) (by kernel_rfl) (by kernel_rfl) (fun _ _ _ h => h) (Or.inl ⟨by rfl, fun w0 hSw => ?_⟩) hHeld ?_
          rotate_left
          · (try dsimp only at hSw)
            go_simp
            try with_reducible rfl
          simp only [Act.put, List.getElem_toArray, List.getElem_cons_succ, List.getElem_cons_zero, List.setIfInBounds_toArray, List.set_cons_zero, List.set_cons_succ]
          refine anyH_cap fun O Q9 AA hO hQ hA => ?_
          obtain ⟨SS, hSS⟩ : ∃ SS : World → Prop, Hid (SS = fun w' => w'.cell? ⟨w.heap.size + 1, 0, none⟩ = some (.bool s2) ∧ w'.cell? ⟨w.heap.size + 1, 1, none⟩ = some (t7) ∧ w'.cell? ⟨w.heap.size + 1, 2, none⟩ = some (t8)) := ⟨_, rfl⟩
          have KP : Hid (∀ wv, Ext w22 wv → SS wv) := fun wv XE => by rw [hSS.out]; exact (F2.out.ext XE).c3
          have L3_5_6 : ∀ (wv : World) (v1 v3 v4 : Value) (B5 B6 : Nat), Hid (Ext w22 wv) → Hid (OwnX 0 wv v1 [(x, q1)] 0) → Hid (OwnQ 163 0 wv v3 r) → Hid (OwnX 0 wv v4 [] r) → Hid (Rt wv B5 4 63) → Hid (w22.heap.size ≤ B5) → Hid (Rt wv B6 4 63) → Hid (w22.heap.size ≤ B6) → Hid (B5 ≠ B6) → wpAnyH Try.prog .any O Q9 SS 2 #[true, true, true, true, true, true, true, false, false] (((((AA.put (some 73) v1).put (some 75) v3).put (some 76) v4).put (some 11) (.pointer (some ⟨B5, 0, none⟩))).put (some 12) (.pointer (some ⟨B6, 0, none⟩))) wv := by
            intro wv v1 v3 v4 B5 B6 hX p1 p3 p4 r5 s5 r6 s6 ne5_6
            have hO1 := hO.out
            have hQ1 := hQ.out
            have hA1 := hA.out
            subst hO1
            subst hQ1
            subst hA1
            have XE := hX.out
            have hS1 := hSS.out
            subst hS1
            have hHeld : (fun w' => w'.cell? ⟨w.heap.size + 1, 0, none⟩ = some (.bool s2) ∧ w'.cell? ⟨w.heap.size + 1, 1, none⟩ = some (t7) ∧ w'.cell? ⟨w.heap.size + 1, 2, none⟩ = some (t8)) wv := (F2.out.ext XE).c3
            try simp only [Act.put, List.getElem_toArray, List.getElem_cons_succ, List.getElem_cons_zero, List.setIfInBounds_toArray, List.set_cons_zero, List.set_cons_succ]
            have k0_5 : w.heap.size + 1 ≠ B5 := by have h1 := s5.out; have hz0 := SZ22.out; omega
            have k0_6 : w.heap.size + 1 ≠ B6 := by have h1 := s6.out; have hz0 := SZ22.out; omega
            have n5_6 := ne5_6.out
            have n6_5 := Ne.symm n5_6
            obtain ⟨f0, f1, f2, f3, f4, f5, f6, f7, f8, rfl, -, -, OA⟩ := p1.out.op
            obtain ⟨h0, h1, h2, h3, h4, h5, h6, h7, h8, rfl, -, -, OB⟩ := p4.out.op
            obtain ⟨_, _, _, _, i5_0, i5_1, i5_2, i5_3, f5_0, f5_1, f5_2, f5_3⟩ := r5.out.c4
            refine wpAnyH_ready (rs := [7]) (by kernel_rfl) (by simp) ?_
            refine AllReadyH.cons (o := _) rfl (fun K hK => ?_) AllReadyH.nil
            go_simp
            refine hK.out _ _ ((((((F2.out.ext XE).set1 k0_5 _ _).set1 k0_5 _ _).set1 k0_5 _ _).set1 k0_5 _ _).c3) (fun hHeld => ?_)
            clear hK K
            try simp only [Act.put, List.getElem_toArray, List.getElem_cons_succ, List.getElem_cons_zero, List.setIfInBounds_toArray, List.set_cons_zero, List.set_cons_succ]
            clear hHeld
            refine gen_world (P := wpAnyH _ _ _ _ _ _ _ _) _ (fun Wg7 hWg7 => ?_)
            have CG7_0 : Bx Wg7 (w.heap.size + 1) [.bool s2, t7, t8] := by rw [hWg7]; exact (((((F2.out.ext XE).set1 k0_5 _ _).set1 k0_5 _ _).set1 k0_5 _ _).set1 k0_5 _ _)
            have RG7_6 : Rt Wg7 B6 4 63 := by rw [hWg7]; exact ((((r6.out.set1 n6_5 _ _).set1 n6_5 _ _).set1 n6_5 _ _).set1 n6_5 _ _)
            have hHeld : (fun w' => w'.cell? ⟨w.heap.size + 1, 0, none⟩ = some (.bool s2) ∧ w'.cell? ⟨w.heap.size + 1, 1, none⟩ = some (t7) ∧ w'.cell? ⟨w.heap.size + 1, 2, none⟩ = some (t8)) Wg7 := CG7_0.c3
            have HWg7 := Lib.hid hWg7
            clear hWg7
            clear i5_0 f5_0 i5_1 f5_1 i5_2 f5_2 i5_3 f5_3
            obtain ⟨_, _, _, _, i6_0, i6_1, i6_2, i6_3, f6_0, f6_1, f6_2, f6_3⟩ := RG7_6.c4
            refine wpAnyH_ready (rs := [8]) (by kernel_rfl) (by simp) ?_
            refine AllReadyH.cons (o := _) rfl (fun K hK => ?_) AllReadyH.nil
            go_simp
            refine hK.out _ _ (((((CG7_0.set1 k0_6 _ _).set1 k0_6 _ _).set1 k0_6 _ _).set1 k0_6 _ _).c3) (fun hHeld => ?_)
            clear hK K
            try simp only [Act.put, List.getElem_toArray, List.getElem_cons_succ, List.getElem_cons_zero, List.setIfInBounds_toArray, List.set_cons_zero, List.set_cons_succ]
            refine wpAnyH_done (by kernel_rfl) ?_ _
            refine NoPanic.normal ?_
            rw [HWg7.out]
            go_wp2_with fail
            go_meet
            obtain ⟨W, hW, hM1, hM2, hM3, hM4, hM5⟩ := meet44 r5.out r6.out ne5_6.out hX.out s5.out s6.out (by decide) (by decide) OA.out OB.out
            simp only [List.length_cons, List.length_nil, Nat.zero_add] at hW
            rw [← hW]
            exact ⟨B5, B6, _, _, _, _, _, _, _, _, rfl, rfl, hM1, hM2, hM3, hM4, hM5⟩
          have L2_5_6 : ∀ (wv : World) (v1 v3 : Value) (B5 B6 : Nat), Hid (Ext w22 wv) → Hid (OwnX 0 wv v1 [(x, q1)] 0) → Hid (OwnQ 163 0 wv v3 r) → Hid (Rt wv B5 4 63) → Hid (w22.heap.size ≤ B5) → Hid (Rt wv B6 4 63) → Hid (w22.heap.size ≤ B6) → Hid (B5 ≠ B6) → wpAnyH Try.prog .any O Q9 SS 3 #[true, true, true, true, false, true, true, false, false] ((((AA.put (some 73) v1).put (some 75) v3).put (some 11) (.pointer (some ⟨B5, 0, none⟩))).put (some 12) (.pointer (some ⟨B6, 0, none⟩))) wv := by
            intro wv v1 v3 B5 B6 hX p1 p3 r5 s5 r6 s6 ne5_6
            have hO1 := hO.out
            have hQ1 := hQ.out
            have hA1 := hA.out
            subst hO1
            subst hQ1
            subst hA1
            have XE := hX.out
            try simp only [Act.put, List.getElem_toArray, List.getElem_cons_succ, List.getElem_cons_zero, List.setIfInBounds_toArray, List.set_cons_zero, List.set_cons_succ]
            refine wpAnyH_ready (rs := [4]) (by kernel_rfl) (by simp) ?_
            refine AllReadyH.cons (o := _) rfl (fun K hK => ?_) AllReadyH.nil
            go_simp
            go_at_call 50
            refine (HLO.out _ _ p3.out).mono ?_
            rintro e wn ⟨vn, rfl, bn, on⟩
            go_wp2_with fail
            refine hK.out _ _ (KP.out _ (Ext.trans XE bn)) (fun _ => ?_)
            clear hK K
            try simp only [Act.put, List.getElem_toArray, List.getElem_cons_succ, List.getElem_cons_zero, List.setIfInBounds_toArray, List.set_cons_zero, List.set_cons_succ]
            exact wpAnyH_at (L3_5_6 wn v1 v3 vn B5 B6 (Ext.trans XE bn) (p1.out.ext bn) (p3.out.ext bn) (on) (r5.out.ext bn) s5 (r6.out.ext bn) s6 ne5_6) (by kernel_rfl) (by kernel_rfl) (by kernel_rfl)
          have L3_6 : ∀ (wv : World) (v1 v3 v4 : Value) (B6 : Nat), Hid (Ext w22 wv) → Hid (OwnX 0 wv v1 [(x, q1)] 0) → Hid (OwnQ 163 0 wv v3 r) → Hid (OwnX 0 wv v4 [] r) → Hid (Rt wv B6 4 63) → Hid (w22.heap.size ≤ B6) → wpAnyH Try.prog .any O Q9 SS 3 #[true, true, true, true, true, false, true, false, false] ((((AA.put (some 73) v1).put (some 75) v3).put (some 76) v4).put (some 12) (.pointer (some ⟨B6, 0, none⟩))) wv := by
            intro wv v1 v3 v4 B6 hX p1 p3 p4 r6 s6
            have hO1 := hO.out
            have hQ1 := hQ.out
            have hA1 := hA.out
            subst hO1
            subst hQ1
            subst hA1
            have XE := hX.out
            try simp only [Act.put, List.getElem_toArray, List.getElem_cons_succ, List.getElem_cons_zero, List.setIfInBounds_toArray, List.set_cons_zero, List.set_cons_succ]
            refine wpAnyH_ready (rs := [5]) (by kernel_rfl) (by simp) ?_
            refine AllReadyH.cons (o := _) rfl (fun K hK => ?_) AllReadyH.nil
            go_simp
            refine hK.out _ _ (KP.out _ (Ext.trans XE (Ext.alloc _ _))) (fun _ => ?_)
            clear hK K
            try simp only [Act.put, List.getElem_toArray, List.getElem_cons_succ, List.getElem_cons_zero, List.setIfInBounds_toArray, List.set_cons_zero, List.set_cons_succ]
            exact wpAnyH_at (L3_5_6 _ v1 v3 v4 wv.heap.size B6 (Ext.trans XE (Ext.alloc wv (.cells [.slice none 0 0, .bool false, .slice none 0 0, .slice none 0 0].toArray 63))) (p1.out.ext (Ext.alloc wv (.cells [.slice none 0 0, .bool false, .slice none 0 0, .slice none 0 0].toArray 63))) (p3.out.ext (Ext.alloc wv (.cells [.slice none 0 0, .bool false, .slice none 0 0, .slice none 0 0].toArray 63))) (p4.out.ext (Ext.alloc wv (.cells [.slice none 0 0, .bool false, .slice none 0 0, .slice none 0 0].toArray 63))) (Rt.new wv [.slice none 0 0, .bool false, .slice none 0 0, .slice none 0 0] 63) (Below.size XE) (r6.out.ext (Ext.alloc wv (.cells [.slice none 0 0, .bool false, .slice none 0 0, .slice none 0 0].toArray 63))) s6 (Nat.ne_of_gt r6.out.lt)) (by kernel_rfl) (by kernel_rfl) (by kernel_rfl)
          have L3_5 : ∀ (wv : World) (v1 v3 v4 : Value) (B5 : Nat), Hid (Ext w22 wv) → Hid (OwnX 0 wv v1 [(x, q1)] 0) → Hid (OwnQ 163 0 wv v3 r) → Hid (OwnX 0 wv v4 [] r) → Hid (Rt wv B5 4 63) → Hid (w22.heap.size ≤ B5) → wpAnyH Try.prog .any O Q9 SS 3 #[true, true, true, true, true, true, false, false, false] ((((AA.put (some 73) v1).put (some 75) v3).put (some 76) v4).put (some 11) (.pointer (some ⟨B5, 0, none⟩))) wv := by
            intro wv v1 v3 v4 B5 hX p1 p3 p4 r5 s5
            have hO1 := hO.out
            have hQ1 := hQ.out
            have hA1 := hA.out
            subst hO1
            subst hQ1
            subst hA1
            have XE := hX.out
            try simp only [Act.put, List.getElem_toArray, List.getElem_cons_succ, List.getElem_cons_zero, List.setIfInBounds_toArray, List.set_cons_zero, List.set_cons_succ]
            refine wpAnyH_ready (rs := [6]) (by kernel_rfl) (by simp) ?_
            refine AllReadyH.cons (o := _) rfl (fun K hK => ?_) AllReadyH.nil
            go_simp
            refine hK.out _ _ (KP.out _ (Ext.trans XE (Ext.alloc _ _))) (fun _ => ?_)
            clear hK K
            try simp only [Act.put, List.getElem_toArray, List.getElem_cons_succ, List.getElem_cons_zero, List.setIfInBounds_toArray, List.set_cons_zero, List.set_cons_succ]
            exact wpAnyH_at (L3_5_6 _ v1 v3 v4 B5 wv.heap.size (Ext.trans XE (Ext.alloc wv (.cells [.slice none 0 0, .bool false, .slice none 0 0, .slice none 0 0].toArray 63))) (p1.out.ext (Ext.alloc wv (.cells [.slice none 0 0, .bool false, .slice none 0 0, .slice none 0 0].toArray 63))) (p3.out.ext (Ext.alloc wv (.cells [.slice none 0 0, .bool false, .slice none 0 0, .slice none 0 0].toArray 63))) (p4.out.ext (Ext.alloc wv (.cells [.slice none 0 0, .bool false, .slice none 0 0, .slice none 0 0].toArray 63))) (r5.out.ext (Ext.alloc wv (.cells [.slice none 0 0, .bool false, .slice none 0 0, .slice none 0 0].toArray 63))) s5 (Rt.new wv [.slice none 0 0, .bool false, .slice none 0 0, .slice none 0 0] 63) (Below.size XE) (Nat.ne_of_lt r5.out.lt)) (by kernel_rfl) (by kernel_rfl) (by kernel_rfl)
          have L1_5_6 : ∀ (wv : World) (v1 : Value) (B5 B6 : Nat), Hid (Ext w22 wv) → Hid (OwnX 0 wv v1 [(x, q1)] 0) → Hid (Rt wv B5 4 63) → Hid (w22.heap.size ≤ B5) → Hid (Rt wv B6 4 63) → Hid (w22.heap.size ≤ B6) → Hid (B5 ≠ B6) → wpAnyH Try.prog .any O Q9 SS 4 #[true, true, true, false, false, true, true, false, false] (((AA.put (some 73) v1).put (some 11) (.pointer (some ⟨B5, 0, none⟩))).put (some 12) (.pointer (some ⟨B6, 0, none⟩))) wv := by
            intro wv v1 B5 B6 hX p1 r5 s5 r6 s6 ne5_6
            have hO1 := hO.out
            have hQ1 := hQ.out
            have hA1 := hA.out
            subst hO1
            subst hQ1
            subst hA1
            have XE := hX.out
            try simp only [Act.put, List.getElem_toArray, List.getElem_cons_succ, List.getElem_cons_zero, List.setIfInBounds_toArray, List.set_cons_zero, List.set_cons_succ]
            refine wpAnyH_ready (rs := [3]) (by kernel_rfl) (by simp) ?_
            refine AllReadyH.cons (o := _) rfl (fun K hK => ?_) AllReadyH.nil
            go_simp
            go_at_call 18
            refine (HOF.out _ _ (HV2.out.ext (Ext.trans b022 XE))).mono ?_
            rintro e wn ⟨vn, rfl, bn, on⟩
            go_wp2_with fail
            refine hK.out _ _ (KP.out _ (Ext.trans XE bn)) (fun _ => ?_)
            clear hK K
            try simp only [Act.put, List.getElem_toArray, List.getElem_cons_succ, List.getElem_cons_zero, List.setIfInBounds_toArray, List.set_cons_zero, List.set_cons_succ]
            exact wpAnyH_at (L2_5_6 wn v1 vn B5 B6 (Ext.trans XE bn) (p1.out.ext bn) (on) (r5.out.ext bn) s5 (r6.out.ext bn) s6 ne5_6) (by kernel_rfl) (by kernel_rfl) (by kernel_rfl)
          have L2_6 : ∀ (wv : World) (v1 v3 : Value) (B6 : Nat), Hid (Ext w22 wv) → Hid (OwnX 0 wv v1 [(x, q1)] 0) → Hid (OwnQ 163 0 wv v3 r) → Hid (Rt wv B6 4 63) → Hid (w22.heap.size ≤ B6) → wpAnyH Try.prog .any O Q9 SS 4 #[true, true, true, true, false, false, true, false, false] (((AA.put (some 73) v1).put (some 75) v3).put (some 12) (.pointer (some ⟨B6, 0, none⟩))) wv := by
            intro wv v1 v3 B6 hX p1 p3 r6 s6
            have hO1 := hO.out
            have hQ1 := hQ.out
            have hA1 := hA.out
            subst hO1
            subst hQ1
            subst hA1
            have XE := hX.out
            try simp only [Act.put, List.getElem_toArray, List.getElem_cons_succ, List.getElem_cons_zero, List.setIfInBounds_toArray, List.set_cons_zero, List.set_cons_succ]
            refine wpAnyH_ready (rs := [4, 5]) (by kernel_rfl) (by simp) ?_
            refine AllReadyH.cons (o := _) rfl (fun K hK => ?_) (AllReadyH.cons (o := _) rfl (fun K hK => ?_) AllReadyH.nil)
            · skip
              go_simp
              go_at_call 50
              refine (HLO.out _ _ p3.out).mono ?_
              rintro e wn ⟨vn, rfl, bn, on⟩
              go_wp2_with fail
              refine hK.out _ _ (KP.out _ (Ext.trans XE bn)) (fun _ => ?_)
              clear hK K
              try simp only [Act.put, List.getElem_toArray, List.getElem_cons_succ, List.getElem_cons_zero, List.setIfInBounds_toArray, List.set_cons_zero, List.set_cons_succ]
              exact wpAnyH_at (L3_6 wn v1 v3 vn B6 (Ext.trans XE bn) (p1.out.ext bn) (p3.out.ext bn) (on) (r6.out.ext bn) s6) (by kernel_rfl) (by kernel_rfl) (by kernel_rfl)
            · skip
              go_simp
              refine hK.out _ _ (KP.out _ (Ext.trans XE (Ext.alloc _ _))) (fun _ => ?_)
              clear hK K
              try simp only [Act.put, List.getElem_toArray, List.getElem_cons_succ, List.getElem_cons_zero, List.setIfInBounds_toArray, List.set_cons_zero, List.set_cons_succ]
              exact wpAnyH_at (L2_5_6 _ v1 v3 wv.heap.size B6 (Ext.trans XE (Ext.alloc wv (.cells [.slice none 0 0, .bool false, .slice none 0 0, .slice none 0 0].toArray 63))) (p1.out.ext (Ext.alloc wv (.cells [.slice none 0 0, .bool false, .slice none 0 0, .slice none 0 0].toArray 63))) (p3.out.ext (Ext.alloc wv (.cells [.slice none 0 0, .bool false, .slice none 0 0, .slice none 0 0].toArray 63))) (Rt.new wv [.slice none 0 0, .bool false, .slice none 0 0, .slice none 0 0] 63) (Below.size XE) (r6.out.ext (Ext.alloc wv (.cells [.slice none 0 0, .bool false, .slice none 0 0, .slice none 0 0].toArray 63))) s6 (Nat.ne_of_gt r6.out.lt)) (by kernel_rfl) (by kernel_rfl) (by kernel_rfl)
          have L2_5 : ∀ (wv : World) (v1 v3 : Value) (B5 : Nat), Hid (Ext w22 wv) → Hid (OwnX 0 wv v1 [(x, q1)] 0) → Hid (OwnQ 163 0 wv v3 r) → Hid (Rt wv B5 4 63) → Hid (w22.heap.size ≤ B5) → wpAnyH Try.prog .any O Q9 SS 4 #[true, true, true, true, false, true, false, false, false] (((AA.put (some 73) v1).put (some 75) v3).put (some 11) (.pointer (some ⟨B5, 0, none⟩))) wv := by
            intro wv v1 v3 B5 hX p1 p3 r5 s5
            have hO1 := hO.out
            have hQ1 := hQ.out
            have hA1 := hA.out
            subst hO1
            subst hQ1
            subst hA1
            have XE := hX.out
            try simp only [Act.put, List.getElem_toArray, List.getElem_cons_succ, List.getElem_cons_zero, List.setIfInBounds_toArray, List.set_cons_zero, List.set_cons_succ]
            refine wpAnyH_ready (rs := [4, 6]) (by kernel_rfl) (by simp) ?_
            refine AllReadyH.cons (o := _) rfl (fun K hK => ?_) (AllReadyH.cons (o := _) rfl (fun K hK => ?_) AllReadyH.nil)
            · skip
              go_simp
              go_at_call 50
              refine (HLO.out _ _ p3.out).mono ?_
              rintro e wn ⟨vn, rfl, bn, on⟩
              go_wp2_with fail
              refine hK.out _ _ (KP.out _ (Ext.trans XE bn)) (fun _ => ?_)
              clear hK K
              try simp only [Act.put, List.getElem_toArray, List.getElem_cons_succ, List.getElem_cons_zero, List.setIfInBounds_toArray, List.set_cons_zero, List.set_cons_succ]
              exact wpAnyH_at (L3_5 wn v1 v3 vn B5 (Ext.trans XE bn) (p1.out.ext bn) (p3.out.ext bn) (on) (r5.out.ext bn) s5) (by kernel_rfl) (by kernel_rfl) (by kernel_rfl)
            · skip
              go_simp
              refine hK.out _ _ (KP.out _ (Ext.trans XE (Ext.alloc _ _))) (fun _ => ?_)
              clear hK K
              try simp only [Act.put, List.getElem_toArray, List.getElem_cons_succ, List.getElem_cons_zero, List.setIfInBounds_toArray, List.set_cons_zero, List.set_cons_succ]
              exact wpAnyH_at (L2_5_6 _ v1 v3 B5 wv.heap.size (Ext.trans XE (Ext.alloc wv (.cells [.slice none 0 0, .bool false, .slice none 0 0, .slice none 0 0].toArray 63))) (p1.out.ext (Ext.alloc wv (.cells [.slice none 0 0, .bool false, .slice none 0 0, .slice none 0 0].toArray 63))) (p3.out.ext (Ext.alloc wv (.cells [.slice none 0 0, .bool false, .slice none 0 0, .slice none 0 0].toArray 63))) (r5.out.ext (Ext.alloc wv (.cells [.slice none 0 0, .bool false, .slice none 0 0, .slice none 0 0].toArray 63))) s5 (Rt.new wv [.slice none 0 0, .bool false, .slice none 0 0, .slice none 0 0] 63) (Below.size XE) (Nat.ne_of_lt r5.out.lt)) (by kernel_rfl) (by kernel_rfl) (by kernel_rfl)
          have L3_ : ∀ (wv : World) (v1 v3 v4 : Value), Hid (Ext w22 wv) → Hid (OwnX 0 wv v1 [(x, q1)] 0) → Hid (OwnQ 163 0 wv v3 r) → Hid (OwnX 0 wv v4 [] r) → wpAnyH Try.prog .any O Q9 SS 4 #[true, true, true, true, true, false, false, false, false] (((AA.put (some 73) v1).put (some 75) v3).put (some 76) v4) wv := by
            intro wv v1 v3 v4 hX p1 p3 p4
            have hO1 := hO.out
            have hQ1 := hQ.out
            have hA1 := hA.out
            subst hO1
            subst hQ1
            subst hA1
            have XE := hX.out
            try simp only [Act.put, List.getElem_toArray, List.getElem_cons_succ, List.getElem_cons_zero, List.setIfInBounds_toArray, List.set_cons_zero, List.set_cons_succ]
            refine wpAnyH_ready (rs := [5, 6]) (by kernel_rfl) (by simp) ?_
            refine AllReadyH.cons (o := _) rfl (fun K hK => ?_) (AllReadyH.cons (o := _) rfl (fun K hK => ?_) AllReadyH.nil)
            · skip
              go_simp
              refine hK.out _ _ (KP.out _ (Ext.trans XE (Ext.alloc _ _))) (fun _ => ?_)
              clear hK K
              try simp only [Act.put, List.getElem_toArray, List.getElem_cons_succ, List.getElem_cons_zero, List.setIfInBounds_toArray, List.set_cons_zero, List.set_cons_succ]
              exact wpAnyH_at (L3_5 _ v1 v3 v4 wv.heap.size (Ext.trans XE (Ext.alloc wv (.cells [.slice none 0 0, .bool false, .slice none 0 0, .slice none 0 0].toArray 63))) (p1.out.ext (Ext.alloc wv (.cells [.slice none 0 0, .bool false, .slice none 0 0, .slice none 0 0].toArray 63))) (p3.out.ext (Ext.alloc wv (.cells [.slice none 0 0, .bool false, .slice none 0 0, .slice none 0 0].toArray 63))) (p4.out.ext (Ext.alloc wv (.cells [.slice none 0 0, .bool false, .slice none 0 0, .slice none 0 0].toArray 63))) (Rt.new wv [.slice none 0 0, .bool false, .slice none 0 0, .slice none 0 0] 63) (Below.size XE)) (by kernel_rfl) (by kernel_rfl) (by kernel_rfl)
            · skip
              go_simp
              refine hK.out _ _ (KP.out _ (Ext.trans XE (Ext.alloc _ _))) (fun _ => ?_)
              clear hK K
              try simp only [Act.put, List.getElem_toArray, List.getElem_cons_succ, List.getElem_cons_zero, List.setIfInBounds_toArray, List.set_cons_zero, List.set_cons_succ]
              exact wpAnyH_at (L3_6 _ v1 v3 v4 wv.heap.size (Ext.trans XE (Ext.alloc wv (.cells [.slice none 0 0, .bool false, .slice none 0 0, .slice none 0 0].toArray 63))) (p1.out.ext (Ext.alloc wv (.cells [.slice none 0 0, .bool false, .slice none 0 0, .slice none 0 0].toArray 63))) (p3.out.ext (Ext.alloc wv (.cells [.slice none 0 0, .bool false, .slice none 0 0, .slice none 0 0].toArray 63))) (p4.out.ext (Ext.alloc wv (.cells [.slice none 0 0, .bool false, .slice none 0 0, .slice none 0 0].toArray 63))) (Rt.new wv [.slice none 0 0, .bool false, .slice none 0 0, .slice none 0 0] 63) (Below.size XE)) (by kernel_rfl) (by kernel_rfl) (by kernel_rfl)
          have L0_5_6 : ∀ (wv : World) (B5 B6 : Nat), Hid (Ext w22 wv) → Hid (Rt wv B5 4 63) → Hid (w22.heap.size ≤ B5) → Hid (Rt wv B6 4 63) → Hid (w22.heap.size ≤ B6) → Hid (B5 ≠ B6) → wpAnyH Try.prog .any O Q9 SS 5 #[true, false, true, false, false, true, true, false, false] ((AA.put (some 11) (.pointer (some ⟨B5, 0, none⟩))).put (some 12) (.pointer (some ⟨B6, 0, none⟩))) wv := by
            intro wv B5 B6 hX r5 s5 r6 s6 ne5_6
            have hO1 := hO.out
            have hQ1 := hQ.out
            have hA1 := hA.out
            subst hO1
            subst hQ1
            subst hA1
            have XE := hX.out
            try simp only [Act.put, List.getElem_toArray, List.getElem_cons_succ, List.getElem_cons_zero, List.setIfInBounds_toArray, List.set_cons_zero, List.set_cons_succ]
            refine wpAnyH_ready (rs := [1]) (by kernel_rfl) (by simp) ?_
            refine AllReadyH.cons (o := _) rfl (fun K hK => ?_) AllReadyH.nil
            go_simp
            go_at_call 49
            refine (HVA.out _).mono ?_
            rintro e wn ⟨vn, rfl, bn, on⟩
            go_wp2_with fail
            refine hK.out _ _ (KP.out _ (Ext.trans XE bn)) (fun _ => ?_)
            clear hK K
            try simp only [Act.put, List.getElem_toArray, List.getElem_cons_succ, List.getElem_cons_zero, List.setIfInBounds_toArray, List.set_cons_zero, List.set_cons_succ]
            exact wpAnyH_at (L1_5_6 wn vn B5 B6 (Ext.trans XE bn) (on) (r5.out.ext bn) s5 (r6.out.ext bn) s6 ne5_6) (by kernel_rfl) (by kernel_rfl) (by kernel_rfl)
          have L1_6 : ∀ (wv : World) (v1 : Value) (B6 : Nat), Hid (Ext w22 wv) → Hid (OwnX 0 wv v1 [(x, q1)] 0) → Hid (Rt wv B6 4 63) → Hid (w22.heap.size ≤ B6) → wpAnyH Try.prog .any O Q9 SS 5 #[true, true, true, false, false, false, true, false, false] ((AA.put (some 73) v1).put (some 12) (.pointer (some ⟨B6, 0, none⟩))) wv := by
            intro wv v1 B6 hX p1 r6 s6
            have hO1 := hO.out
            have hQ1 := hQ.out
            have hA1 := hA.out
            subst hO1
            subst hQ1
            subst hA1
            have XE := hX.out
            try simp only [Act.put, List.getElem_toArray, List.getElem_cons_succ, List.getElem_cons_zero, List.setIfInBounds_toArray, List.set_cons_zero, List.set_cons_succ]
            refine wpAnyH_ready (rs := [3, 5]) (by kernel_rfl) (by simp) ?_
            refine AllReadyH.cons (o := _) rfl (fun K hK => ?_) (AllReadyH.cons (o := _) rfl (fun K hK => ?_) AllReadyH.nil)
            · skip
              go_simp
              go_at_call 18
              refine (HOF.out _ _ (HV2.out.ext (Ext.trans b022 XE))).mono ?_
              rintro e wn ⟨vn, rfl, bn, on⟩
              go_wp2_with fail
              refine hK.out _ _ (KP.out _ (Ext.trans XE bn)) (fun _ => ?_)
              clear hK K
              try simp only [Act.put, List.getElem_toArray, List.getElem_cons_succ, List.getElem_cons_zero, List.setIfInBounds_toArray, List.set_cons_zero, List.set_cons_succ]
              exact wpAnyH_at (L2_6 wn v1 vn B6 (Ext.trans XE bn) (p1.out.ext bn) (on) (r6.out.ext bn) s6) (by kernel_rfl) (by kernel_rfl) (by kernel_rfl)
            · skip
              go_simp
              refine hK.out _ _ (KP.out _ (Ext.trans XE (Ext.alloc _ _))) (fun _ => ?_)
              clear hK K
              try simp only [Act.put, List.getElem_toArray, List.getElem_cons_succ, List.getElem_cons_zero, List.setIfInBounds_toArray, List.set_cons_zero, List.set_cons_succ]
              exact wpAnyH_at (L1_5_6 _ v1 wv.heap.size B6 (Ext.trans XE (Ext.alloc wv (.cells [.slice none 0 0, .bool false, .slice none 0 0, .slice none 0 0].toArray 63))) (p1.out.ext (Ext.alloc wv (.cells [.slice none 0 0, .bool false, .slice none 0 0, .slice none 0 0].toArray 63))) (Rt.new wv [.slice none 0 0, .bool false, .slice none 0 0, .slice none 0 0] 63) (Below.size XE) (r6.out.ext (Ext.alloc wv (.cells [.slice none 0 0, .bool false, .slice none 0 0, .slice none 0 0].toArray 63))) s6 (Nat.ne_of_gt r6.out.lt)) (by kernel_rfl) (by kernel_rfl) (by kernel_rfl)
          have L1_5 : ∀ (wv : World) (v1 : Value) (B5 : Nat), Hid (Ext w22 wv) → Hid (OwnX 0 wv v1 [(x, q1)] 0) → Hid (Rt wv B5 4 63) → Hid (w22.heap.size ≤ B5) → wpAnyH Try.prog .any O Q9 SS 5 #[true, true, true, false, false, true, false, false, false] ((AA.put (some 73) v1).put (some 11) (.pointer (some ⟨B5, 0, none⟩))) wv := by
            intro wv v1 B5 hX p1 r5 s5
            have hO1 := hO.out
            have hQ1 := hQ.out
            have hA1 := hA.out
            subst hO1
            subst hQ1
            subst hA1
            have XE := hX.out
            try simp only [Act.put, List.getElem_toArray, List.getElem_cons_succ, List.getElem_cons_zero, List.setIfInBounds_toArray, List.set_cons_zero, List.set_cons_succ]
            refine wpAnyH_ready (rs := [3, 6]) (by kernel_rfl) (by simp) ?_
            refine AllReadyH.cons (o := _) rfl (fun K hK => ?_) (AllReadyH.cons (o := _) rfl (fun K hK => ?_) AllReadyH.nil)
            · skip
              go_simp
              go_at_call 18
              refine (HOF.out _ _ (HV2.out.ext (Ext.trans b022 XE))).mono ?_
              rintro e wn ⟨vn, rfl, bn, on⟩
              go_wp2_with fail
              refine hK.out _ _ (KP.out _ (Ext.trans XE bn)) (fun _ => ?_)
              clear hK K
              try simp only [Act.put, List.getElem_toArray, List.getElem_cons_succ, List.getElem_cons_zero, List.setIfInBounds_toArray, List.set_cons_zero, List.set_cons_succ]
              exact wpAnyH_at (L2_5 wn v1 vn B5 (Ext.trans XE bn) (p1.out.ext bn) (on) (r5.out.ext bn) s5) (by kernel_rfl) (by kernel_rfl) (by kernel_rfl)
            · skip
              go_simp
              refine hK.out _ _ (KP.out _ (Ext.trans XE (Ext.alloc _ _))) (fun _ => ?_)
              clear hK K
              try simp only [Act.put, List.getElem_toArray, List.getElem_cons_succ, List.getElem_cons_zero, List.setIfInBounds_toArray, List.set_cons_zero, List.set_cons_succ]
              exact wpAnyH_at (L1_5_6 _ v1 B5 wv.heap.size (Ext.trans XE (Ext.alloc wv (.cells [.slice none 0 0, .bool false, .slice none 0 0, .slice none 0 0].toArray 63))) (p1.out.ext (Ext.alloc wv (.cells [.slice none 0 0, .bool false, .slice none 0 0, .slice none 0 0].toArray 63))) (r5.out.ext (Ext.alloc wv (.cells [.slice none 0 0, .bool false, .slice none 0 0, .slice none 0 0].toArray 63))) s5 (Rt.new wv [.slice none 0 0, .bool false, .slice none 0 0, .slice none 0 0] 63) (Below.size XE) (Nat.ne_of_lt r5.out.lt)) (by kernel_rfl) (by kernel_rfl) (by kernel_rfl)
          have L2_ : ∀ (wv : World) (v1 v3 : Value), Hid (Ext w22 wv) → Hid (OwnX 0 wv v1 [(x, q1)] 0) → Hid (OwnQ 163 0 wv v3 r) → wpAnyH Try.prog .any O Q9 SS 5 #[true, true, true, true, false, false, false, false, false] ((AA.put (some 73) v1).put (some 75) v3) wv := by
            intro wv v1 v3 hX p1 p3
            have hO1 := hO.out
            have hQ1 := hQ.out
            have hA1 := hA.out
            subst hO1
            subst hQ1
            subst hA1
            have XE := hX.out
            try simp only [Act.put, List.getElem_toArray, List.getElem_cons_succ, List.getElem_cons_zero, List.setIfInBounds_toArray, List.set_cons_zero, List.set_cons_succ]
            refine wpAnyH_ready (rs := [4, 5, 6]) (by kernel_rfl) (by simp) ?_
            refine AllReadyH.cons (o := _) rfl (fun K hK => ?_) (AllReadyH.cons (o := _) rfl (fun K hK => ?_) (AllReadyH.cons (o := _) rfl (fun K hK => ?_) AllReadyH.nil))
            · skip
              go_simp
              go_at_call 50
              refine (HLO.out _ _ p3.out).mono ?_
              rintro e wn ⟨vn, rfl, bn, on⟩
              go_wp2_with fail
              refine hK.out _ _ (KP.out _ (Ext.trans XE bn)) (fun _ => ?_)
              clear hK K
              try simp only [Act.put, List.getElem_toArray, List.getElem_cons_succ, List.getElem_cons_zero, List.setIfInBounds_toArray, List.set_cons_zero, List.set_cons_succ]
              exact wpAnyH_at (L3_ wn v1 v3 vn (Ext.trans XE bn) (p1.out.ext bn) (p3.out.ext bn) (on)) (by kernel_rfl) (by kernel_rfl) (by kernel_rfl)
            · skip
              go_simp
              refine hK.out _ _ (KP.out _ (Ext.trans XE (Ext.alloc _ _))) (fun _ => ?_)
              clear hK K
              try simp only [Act.put, List.getElem_toArray, List.getElem_cons_succ, List.getElem_cons_zero, List.setIfInBounds_toArray, List.set_cons_zero, List.set_cons_succ]
              exact wpAnyH_at (L2_5 _ v1 v3 wv.heap.size (Ext.trans XE (Ext.alloc wv (.cells [.slice none 0 0, .bool false, .slice none 0 0, .slice none 0 0].toArray 63))) (p1.out.ext (Ext.alloc wv (.cells [.slice none 0 0, .bool false, .slice none 0 0, .slice none 0 0].toArray 63))) (p3.out.ext (Ext.alloc wv (.cells [.slice none 0 0, .bool false, .slice none 0 0, .slice none 0 0].toArray 63))) (Rt.new wv [.slice none 0 0, .bool false, .slice none 0 0, .slice none 0 0] 63) (Below.size XE)) (by kernel_rfl) (by kernel_rfl) (by kernel_rfl)
            · skip
              go_simp
              refine hK.out _ _ (KP.out _ (Ext.trans XE (Ext.alloc _ _))) (fun _ => ?_)
              clear hK K
              try simp only [Act.put, List.getElem_toArray, List.getElem_cons_succ, List.getElem_cons_zero, List.setIfInBounds_toArray, List.set_cons_zero, List.set_cons_succ]
              exact wpAnyH_at (L2_6 _ v1 v3 wv.heap.size (Ext.trans XE (Ext.alloc wv (.cells [.slice none 0 0, .bool false, .slice none 0 0, .slice none 0 0].toArray 63))) (p1.out.ext (Ext.alloc wv (.cells [.slice none 0 0, .bool false, .slice none 0 0, .slice none 0 0].toArray 63))) (p3.out.ext (Ext.alloc wv (.cells [.slice none 0 0, .bool false, .slice none 0 0, .slice none 0 0].toArray 63))) (Rt.new wv [.slice none 0 0, .bool false, .slice none 0 0, .slice none 0 0] 63) (Below.size XE)) (by kernel_rfl) (by kernel_rfl) (by kernel_rfl)
          have L0_6 : ∀ (wv : World) (B6 : Nat), Hid (Ext w22 wv) → Hid (Rt wv B6 4 63) → Hid (w22.heap.size ≤ B6) → wpAnyH Try.prog .any O Q9 SS 6 #[true, false, true, false, false, false, true, false, false] (AA.put (some 12) (.pointer (some ⟨B6, 0, none⟩))) wv := by
            intro wv B6 hX r6 s6
            have hO1 := hO.out
            have hQ1 := hQ.out
            have hA1 := hA.out
            subst hO1
            subst hQ1
            subst hA1
            have XE := hX.out
            try simp only [Act.put, List.getElem_toArray, List.getElem_cons_succ, List.getElem_cons_zero, List.setIfInBounds_toArray, List.set_cons_zero, List.set_cons_succ]
            refine wpAnyH_ready (rs := [1, 5]) (by kernel_rfl) (by simp) ?_
            refine AllReadyH.cons (o := _) rfl (fun K hK => ?_) (AllReadyH.cons (o := _) rfl (fun K hK => ?_) AllReadyH.nil)
            · skip
              go_simp
              go_at_call 49
              refine (HVA.out _).mono ?_
              rintro e wn ⟨vn, rfl, bn, on⟩
              go_wp2_with fail
              refine hK.out _ _ (KP.out _ (Ext.trans XE bn)) (fun _ => ?_)
              clear hK K
              try simp only [Act.put, List.getElem_toArray, List.getElem_cons_succ, List.getElem_cons_zero, List.setIfInBounds_toArray, List.set_cons_zero, List.set_cons_succ]
              exact wpAnyH_at (L1_6 wn vn B6 (Ext.trans XE bn) (on) (r6.out.ext bn) s6) (by kernel_rfl) (by kernel_rfl) (by kernel_rfl)
            · skip
              go_simp
              refine hK.out _ _ (KP.out _ (Ext.trans XE (Ext.alloc _ _))) (fun _ => ?_)
              clear hK K
              try simp only [Act.put, List.getElem_toArray, List.getElem_cons_succ, List.getElem_cons_zero, List.setIfInBounds_toArray, List.set_cons_zero, List.set_cons_succ]
              exact wpAnyH_at (L0_5_6 _ wv.heap.size B6 (Ext.trans XE (Ext.alloc wv (.cells [.slice none 0 0, .bool false, .slice none 0 0, .slice none 0 0].toArray 63))) (Rt.new wv [.slice none 0 0, .bool false, .slice none 0 0, .slice none 0 0] 63) (Below.size XE) (r6.out.ext (Ext.alloc wv (.cells [.slice none 0 0, .bool false, .slice none 0 0, .slice none 0 0].toArray 63))) s6 (Nat.ne_of_gt r6.out.lt)) (by kernel_rfl) (by kernel_rfl) (by kernel_rfl)
          have L0_5 : ∀ (wv : World) (B5 : Nat), Hid (Ext w22 wv) → Hid (Rt wv B5 4 63) → Hid (w22.heap.size ≤ B5) → wpAnyH Try.prog .any O Q9 SS 6 #[true, false, true, false, false, true, false, false, false] (AA.put (some 11) (.pointer (some ⟨B5, 0, none⟩))) wv := by
            intro wv B5 hX r5 s5
            have hO1 := hO.out
            have hQ1 := hQ.out
            have hA1 := hA.out
            subst hO1
            subst hQ1
            subst hA1
            have XE := hX.out
            try simp only [Act.put, List.getElem_toArray, List.getElem_cons_succ, List.getElem_cons_zero, List.setIfInBounds_toArray, List.set_cons_zero, List.set_cons_succ]
            refine wpAnyH_ready (rs := [1, 6]) (by kernel_rfl) (by simp) ?_
            refine AllReadyH.cons (o := _) rfl (fun K hK => ?_) (AllReadyH.cons (o := _) rfl (fun K hK => ?_) AllReadyH.nil)
            · skip
              go_simp
              go_at_call 49
              refine (HVA.out _).mono ?_
              rintro e wn ⟨vn, rfl, bn, on⟩
              go_wp2_with fail
              refine hK.out _ _ (KP.out _ (Ext.trans XE bn)) (fun _ => ?_)
              clear hK K
              try simp only [Act.put, List.getElem_toArray, List.getElem_cons_succ, List.getElem_cons_zero, List.setIfInBounds_toArray, List.set_cons_zero, List.set_cons_succ]
              exact wpAnyH_at (L1_5 wn vn B5 (Ext.trans XE bn) (on) (r5.out.ext bn) s5) (by kernel_rfl) (by kernel_rfl) (by kernel_rfl)
            · skip
              go_simp
              refine hK.out _ _ (KP.out _ (Ext.trans XE (Ext.alloc _ _))) (fun _ => ?_)
              clear hK K
              try simp only [Act.put, List.getElem_toArray, List.getElem_cons_succ, List.getElem_cons_zero, List.setIfInBounds_toArray, List.set_cons_zero, List.set_cons_succ]
              exact wpAnyH_at (L0_5_6 _ B5 wv.heap.size (Ext.trans XE (Ext.alloc wv (.cells [.slice none 0 0, .bool false, .slice none 0 0, .slice none 0 0].toArray 63))) (r5.out.ext (Ext.alloc wv (.cells [.slice none 0 0, .bool false, .slice none 0 0, .slice none 0 0].toArray 63))) s5 (Rt.new wv [.slice none 0 0, .bool false, .slice none 0 0, .slice none 0 0] 63) (Below.size XE) (Nat.ne_of_lt r5.out.lt)) (by kernel_rfl) (by kernel_rfl) (by kernel_rfl)
          have L1_ : ∀ (wv : World) (v1 : Value), Hid (Ext w22 wv) → Hid (OwnX 0 wv v1 [(x, q1)] 0) → wpAnyH Try.prog .any O Q9 SS 6 #[true, true, true, false, false, false, false, false, false] (AA.put (some 73) v1) wv := by
            intro wv v1 hX p1
            have hO1 := hO.out
            have hQ1 := hQ.out
            have hA1 := hA.out
            subst hO1
            subst hQ1
            subst hA1
            have XE := hX.out
            try simp only [Act.put, List.getElem_toArray, List.getElem_cons_succ, List.getElem_cons_zero, List.setIfInBounds_toArray, List.set_cons_zero, List.set_cons_succ]
            refine wpAnyH_ready (rs := [3, 5, 6]) (by kernel_rfl) (by simp) ?_
            refine AllReadyH.cons (o := _) rfl (fun K hK => ?_) (AllReadyH.cons (o := _) rfl (fun K hK => ?_) (AllReadyH.cons (o := _) rfl (fun K hK => ?_) AllReadyH.nil))
            · skip
              go_simp
              go_at_call 18
              refine (HOF.out _ _ (HV2.out.ext (Ext.trans b022 XE))).mono ?_
              rintro e wn ⟨vn, rfl, bn, on⟩
              go_wp2_with fail
              refine hK.out _ _ (KP.out _ (Ext.trans XE bn)) (fun _ => ?_)
              clear hK K
              try simp only [Act.put, List.getElem_toArray, List.getElem_cons_succ, List.getElem_cons_zero, List.setIfInBounds_toArray, List.set_cons_zero, List.set_cons_succ]
              exact wpAnyH_at (L2_ wn v1 vn (Ext.trans XE bn) (p1.out.ext bn) (on)) (by kernel_rfl) (by kernel_rfl) (by kernel_rfl)
            · skip
              go_simp
              refine hK.out _ _ (KP.out _ (Ext.trans XE (Ext.alloc _ _))) (fun _ => ?_)
              clear hK K
              try simp only [Act.put, List.getElem_toArray, List.getElem_cons_succ, List.getElem_cons_zero, List.setIfInBounds_toArray, List.set_cons_zero, List.set_cons_succ]
              exact wpAnyH_at (L1_5 _ v1 wv.heap.size (Ext.trans XE (Ext.alloc wv (.cells [.slice none 0 0, .bool false, .slice none 0 0, .slice none 0 0].toArray 63))) (p1.out.ext (Ext.alloc wv (.cells [.slice none 0 0, .bool false, .slice none 0 0, .slice none 0 0].toArray 63))) (Rt.new wv [.slice none 0 0, .bool false, .slice none 0 0, .slice none 0 0] 63) (Below.size XE)) (by kernel_rfl) (by kernel_rfl) (by kernel_rfl)
            · skip
              go_simp
              refine hK.out _ _ (KP.out _ (Ext.trans XE (Ext.alloc _ _))) (fun _ => ?_)
              clear hK K
              try simp only [Act.put, List.getElem_toArray, List.getElem_cons_succ, List.getElem_cons_zero, List.setIfInBounds_toArray, List.set_cons_zero, List.set_cons_succ]
              exact wpAnyH_at (L1_6 _ v1 wv.heap.size (Ext.trans XE (Ext.alloc wv (.cells [.slice none 0 0, .bool false, .slice none 0 0, .slice none 0 0].toArray 63))) (p1.out.ext (Ext.alloc wv (.cells [.slice none 0 0, .bool false, .slice none 0 0, .slice none 0 0].toArray 63))) (Rt.new wv [.slice none 0 0, .bool false, .slice none 0 0, .slice none 0 0] 63) (Below.size XE)) (by kernel_rfl) (by kernel_rfl) (by kernel_rfl)
          have L0_ : ∀ (wv : World), Hid (Ext w22 wv) → wpAnyH Try.prog .any O Q9 SS 7 #[true, false, true, false, false, false, false, false, false] AA wv := by
            intro wv hX
            have hO1 := hO.out
            have hQ1 := hQ.out
            have hA1 := hA.out
            subst hO1
            subst hQ1
            subst hA1
            have XE := hX.out
            try simp only [Act.put, List.getElem_toArray, List.getElem_cons_succ, List.getElem_cons_zero, List.setIfInBounds_toArray, List.set_cons_zero, List.set_cons_succ]
            refine wpAnyH_ready (rs := [1, 5, 6]) (by kernel_rfl) (by simp) ?_
            refine AllReadyH.cons (o := _) rfl (fun K hK => ?_) (AllReadyH.cons (o := _) rfl (fun K hK => ?_) (AllReadyH.cons (o := _) rfl (fun K hK => ?_) AllReadyH.nil))
            · skip
              go_simp
              go_at_call 49
              refine (HVA.out _).mono ?_
              rintro e wn ⟨vn, rfl, bn, on⟩
              go_wp2_with fail
              refine hK.out _ _ (KP.out _ (Ext.trans XE bn)) (fun _ => ?_)
              clear hK K
              try simp only [Act.put, List.getElem_toArray, List.getElem_cons_succ, List.getElem_cons_zero, List.setIfInBounds_toArray, List.set_cons_zero, List.set_cons_succ]
              exact wpAnyH_at (L1_ wn vn (Ext.trans XE bn) (on)) (by kernel_rfl) (by kernel_rfl) (by kernel_rfl)
            · skip
              go_simp
              refine hK.out _ _ (KP.out _ (Ext.trans XE (Ext.alloc _ _))) (fun _ => ?_)
              clear hK K
              try simp only [Act.put, List.getElem_toArray, List.getElem_cons_succ, List.getElem_cons_zero, List.setIfInBounds_toArray, List.set_cons_zero, List.set_cons_succ]
              exact wpAnyH_at (L0_5 _ wv.heap.size (Ext.trans XE (Ext.alloc wv (.cells [.slice none 0 0, .bool false, .slice none 0 0, .slice none 0 0].toArray 63))) (Rt.new wv [.slice none 0 0, .bool false, .slice none 0 0, .slice none 0 0] 63) (Below.size XE)) (by kernel_rfl) (by kernel_rfl) (by kernel_rfl)
            · skip
              go_simp
              refine hK.out _ _ (KP.out _ (Ext.trans XE (Ext.alloc _ _))) (fun _ => ?_)
              clear hK K
              try simp only [Act.put, List.getElem_toArray, List.getElem_cons_succ, List.getElem_cons_zero, List.setIfInBounds_toArray, List.set_cons_zero, List.set_cons_succ]
              exact wpAnyH_at (L0_6 _ wv.heap.size (Ext.trans XE (Ext.alloc wv (.cells [.slice none 0 0, .bool false, .slice none 0 0, .slice none 0 0].toArray 63))) (Rt.new wv [.slice none 0 0, .bool false, .slice none 0 0, .slice none 0 0] 63) (Below.size XE)) (by kernel_rfl) (by kernel_rfl) (by kernel_rfl)
          have hO1 := hO.out
          have hQ1 := hQ.out
          have hA1 := hA.out
          subst hO1
          subst hQ1
          subst hA1
          have hS1 := hSS.out
          subst hS1
          exact wpAnyH_at (L0_ w22.drew (drew_ext w22)) (by kernel_rfl) (by kernel_rfl) (by kernel_rfl)
      case rest =>
        as_aux_lemma =>
          obtain ⟨B5, B6, x0, x1, x2, x3, y0, y1, y2, y3, rfl, rfl, b23, C5, C6, OA, OB⟩ := hcut
          generalize wc = w23 at *
          obtain ⟨p0, p1, p2, p3, p4, p5, p6, p7, p8, he, -, -, HRA, HQA⟩ := OA.out.rd.op
          simp only [Value.agg.injEq, Array.mk.injEq, List.cons.injEq, and_true] at he
          obtain ⟨rfl, rfl, rfl, rfl⟩ := he
          obtain ⟨r0, r1, r2, r3, r4, r5, r6, r7, r8, he, -, -, -, HQB⟩ := OB.out.rd.op
          simp only [Value.agg.injEq, Array.mk.injEq, List.cons.injEq, and_true] at he
          obtain ⟨rfl, rfl, rfl, rfl⟩ := he
          obtain ⟨bT, oT, rfl⟩ := HRA.out.some_at (i := 0) (by simp)
          obtain ⟨sx, ax, lx, mx, ay, ly, my, hB4, hQ⟩ := HRA.out.tm 0 (by simp)
          have HB4 : Hid (Box4 w23 bT oT (.int .i64 x) (.bool sx) (.slice ax lx mx) (.slice ay ly my)) := by
            have h := hB4
            rwa [Nat.zero_mul, Nat.add_zero] at h
          have HQ : Hid (OwnQ 163 0 w23 (.agg #[.bool sx, .slice ax lx mx, .slice ay ly my]) q1) := hQ
          clear hB4 hQ HRA OA OB
          change Hid (Bx w23 B5 [.slice (some ⟨bT, oT, none⟩) 1 p1, .bool p2, .slice p3 p4 p5, .slice p6 p7 p8]) at C5
          change Hid (Bx w23 B6 [.slice r0 0 r1, .bool r2, .slice r3 r4 r5, .slice r6 r7 r8]) at C6
          have b023 := Ext.trans b022 b23
          have G2 := Lib.hid (F2.out.ext b23)
          go_upto_region 13 with (fail)
          have b24 := drew_ext w23
          have XE := b24
          refine wp_region_noPanic ?_
          refine wp_region_held_drew (S := fun w' => (w'.cell? ⟨B5, 0, none⟩ = some (.slice (some ⟨bT, oT, none⟩) 1 p1) ∧ w'.cell? ⟨B5, 1, none⟩ = some (.bool p2) ∧ w'.cell? ⟨B5, 2, none⟩ = some (.slice p3 p4 p5) ∧ w'.cell? ⟨B5, 3, none⟩ = some (.slice p6 p7 p8)) ∧ (w'.cell? ⟨B6, 0, none⟩ = some (.slice r0 0 r1) ∧ w'.cell? ⟨B6, 1, none⟩ = some (.bool r2) ∧ w'.cell? ⟨B6, 2, none⟩ = some (.slice r3 r4 r5) ∧ w'.cell? ⟨B6, 3, none⟩ = some (.slice r6 r7 r8)) ∧ (w'.cell? ⟨bT, oT, none⟩ = some (.int .i64 x) ∧ w'.cell? ⟨bT, oT + 1, none⟩ = some (.bool sx) ∧ w'.cell? ⟨bT, oT + 2, none⟩ = some (.slice ax lx mx) ∧ w'.cell? ⟨bT, oT + 3, none⟩ = some (.slice ay ly my)) ∧ (w'.cell? ⟨w.heap.size + 1, 0, none⟩ = some (.bool s2) ∧ w'.cell? ⟨w.heap.size + 1, 1, none⟩ = some (t7) ∧ w'.cell? ⟨w.heap.size + 1, 2, none⟩ = some (t8))) (by kernel_rfl) (⟨(C5.out.ext XE).c4, (C6.out.ext XE).c4, HB4.out.ext XE, (G2.out.ext XE).c3⟩) (fun hHeld => ?_)
          refine wpAnyH_take (i := 0) (v := ?_) rfl (by kernel_rfl) (by kernel_rfl) (by kernel_rfl) (fun _ _ _ h => h) (Or.inl ⟨by rfl, fun w0 hSw => ?_⟩) hHeld ?_
          rotate_left
          · (try dsimp only at hSw)
            go_simp
            try with_reducible rfl
          simp only [Act.put, List.getElem_toArray, List.getElem_cons_succ, List.getElem_cons_zero, List.setIfInBounds_toArray, List.set_cons_zero, List.set_cons_succ]
          refine wpAnyH_take (i := 1) (v := ?_) rfl (by kernel_rfl) (by kernel_rfl) (by kernel_rfl) (fun _ _ _ h => h) (Or.inl ⟨by rfl, fun w0 hSw => ?_⟩) hHeld ?_
          rotate_left
          · (try dsimp only at hSw)
            go_simp
            try with_reducible rfl
          simp only [Act.put, List.getElem_toArray, List.getElem_cons_succ, List.getElem_cons_zero, List.setIfInBounds_toArray, List.set_cons_zero, List.set_cons_succ]
          refine wpAnyH_take (i := 2) (v := ?_) rfl (by kernel_rfl) (by kernel_rfl) (by kernel_rfl) (fun _ _ _ h => h) (Or.inl ⟨by rfl, fun w0 hSw => ?_⟩) hHeld ?_
          rotate_left
          · (try dsimp only at hSw)
            go_simp
            try with_reducible rfl
          simp only [Act.put, List.getElem_toArray, List.getElem_cons_succ, List.getElem_cons_zero, List.setIfInBounds_toArray, List.set_cons_zero, List.set_cons_succ]
          refine wpAnyH_take (i := 3) (v := ?_) rfl (by kernel_rfl) (by kernel_rfl) (by kernel_rfl) (fun _ _ _ h => h) (Or.inl ⟨by rfl, fun w0 hSw => ?_⟩) hHeld ?_
          rotate_left
          · (try dsimp only at hSw)
            go_simp
            try with_reducible rfl
          simp only [Act.put, List.getElem_toArray, List.getElem_cons_succ, List.getElem_cons_zero, List.setIfInBounds_toArray, List.set_cons_zero, List.set_cons_succ]
          refine wpAnyH_take (i := 4) (v := ?_) rfl (by kernel_rfl) (by kernel_rfl) (by kernel_rfl) (fun _ _ _ h => h) (Or.inl ⟨by rfl, fun w0 hSw => ?_⟩) hHeld ?_
          rotate_left
          · (try dsimp only at hSw)
            go_simp
            try with_reducible rfl
          simp only [Act.put, List.getElem_toArray, List.getElem_cons_succ, List.getElem_cons_zero, List.setIfInBounds_toArray, List.set_cons_zero, List.set_cons_succ]
          refine wpAnyH_take (i := 5) (v := ?_) rfl (by kernel_rfl) (by kernel_rfl) (by kernel_rfl) (fun _ _ _ h => h) (Or.inl ⟨by rfl, fun w0 hSw => ?_⟩) hHeld ?_
          rotate_left
          · (try dsimp only at hSw)
            go_simp
            try with_reducible rfl
          simp only [Act.put, List.getElem_toArray, List.getElem_cons_succ, List.getElem_cons_zero, List.setIfInBounds_toArray, List.set_cons_zero, List.set_cons_succ]
          refine wpAnyH_take (i := 6) (v := ?_) rfl (by kernel_rfl) (by kernel_rfl) (by kernel_rfl) (fun _ _ _ h => h) (Or.inl ⟨by rfl, fun w0 hSw => ?_⟩) hHeld ?_
          rotate_left
          · (try dsimp only at hSw)
            go_simp
            try with_reducible rfl
          simp only [Act.put, List.getElem_toArray, List.getElem_cons_succ, List.getElem_cons_zero, List.setIfInBounds_toArray, List.set_cons_zero, List.set_cons_succ]
          refine wpAnyH_take (i := 7) (v := ?_) rfl (by kernel_rfl) (by kernel_rfl) (by kernel_rfl) (fun _ _ _ h => h) (Or.inl ⟨by rfl, fun w0 hSw => ?_⟩) hHeld ?_
          rotate_left
          · (try dsimp only at hSw)
            go_simp
            try with_reducible rfl
          simp only [Act.put, List.getElem_toArray, List.getElem_cons_succ, List.getElem_cons_zero, List.setIfInBounds_toArray, List.set_cons_zero, List.set_cons_succ]
          refine wpAnyH_take (i := 8) (v := ?_) rfl (by kernel_rfl) (by kernel_rfl) (by kernel_rfl) (fun _ _ _ h => h) (Or.inl ⟨by rfl, fun w0 hSw => ?_⟩) hHeld ?_
          rotate_left
          · (try dsimp only at hSw)
            go_simp
            try with_reducible rfl
          simp only [Act.put, List.getElem_toArray, List.getElem_cons_succ, List.getElem_cons_zero, List.setIfInBounds_toArray, List.set_cons_zero, List.set_cons_succ]
          refine wpAnyH_take (i := 9) (v := ?_) rfl (by kernel_rfl) (by kernel_rfl) (by kernel_rfl) (fun _ _ _ h => h) (Or.inl ⟨by rfl, fun w0 hSw => ?_⟩) hHeld ?_
          rotate_left
          · (try dsimp only at hSw)
            go_simp
            try with_reducible rfl
          simp only [Act.put, List.getElem_toArray, List.getElem_cons_succ, List.getElem_cons_zero, List.setIfInBounds_toArray, List.set_cons_zero, List.set_cons_succ]
          refine wpAnyH_take (i := 10) (v := ?_) rfl (by kernel_rfl) (by kernel_rfl) (by kernel_rfl) (fun _ _ _ h => h) (Or.inl ⟨by rfl, fun w0 hSw => ?_⟩) hHeld ?_
          rotate_left
          · (try dsimp only at hSw)
            go_simp
            try with_reducible rfl
          simp only [Act.put, List.getElem_toArray, List.getElem_cons_succ, List.getElem_cons_zero, List.setIfInBounds_toArray, List.set_cons_zero, List.set_cons_succ]
          refine wpAnyH_take (i := 11) (v := ?_) rfl (by kernel_rfl) (by kernel_rfl) (by kernel_rfl) (fun _ _ _ h => h) (Or.inl ⟨by rfl, fun w0 hSw => ?_⟩) hHeld ?_
          rotate_left
          · (try dsimp only at hSw)
            go_simp
            try with_reducible rfl
          simp only [Act.put, List.getElem_toArray, List.getElem_cons_succ, List.getElem_cons_zero, List.setIfInBounds_toArray, List.set_cons_zero, List.set_cons_succ]
          refine wpAnyH_take (i := 12) (v := ?_) rfl (by kernel_rfl) (by kernel_rfl) (by kernel_rfl) (fun _ _ _ h => h) (Or.inl ⟨by rfl, fun w0 hSw => ?_⟩) hHeld ?_
          rotate_left
          · (try dsimp only at hSw)
            go_simp
            try with_reducible rfl
          simp only [Act.put, List.getElem_toArray, List.getElem_cons_succ, List.getElem_cons_zero, List.setIfInBounds_toArray, List.set_cons_zero, List.set_cons_succ]
          refine wpAnyH_take (i := 13) (v := ?_) rfl (by kernel_rfl) (by kernel_rfl) (by kernel_rfl) (fun _ _ _ h => h) (Or.inl ⟨by rfl, fun w0 hSw => ?_⟩) hHeld ?_
          rotate_left
          · (try dsimp only at hSw)
            go_simp
            try with_reducible rfl
          simp only [Act.put, List.getElem_toArray, List.getElem_cons_succ, List.getElem_cons_zero, List.setIfInBounds_toArray, List.set_cons_zero, List.set_cons_succ]
          refine wpAnyH_take (i := 14) (v := ?_) rfl (by kernel_rfl) (by kernel_rfl) (by kernel_rfl) (fun _ _ _ h => h) (Or.inl ⟨by rfl, fun w0 hSw => ?_⟩) hHeld ?_
          rotate_left
          · (try dsimp only at hSw)
            go_simp
            try with_reducible rfl
          simp only [Act.put, List.getElem_toArray, List.getElem_cons_succ, List.getElem_cons_zero, List.setIfInBounds_toArray, List.set_cons_zero, List.set_cons_succ]
          refine wpAnyH_take (i := 15) (v := ?_) rfl (by kernel_rfl) (by kernel_rfl) (by kernel_rfl) (fun _ _ _ h => h) (Or.inl ⟨by rfl, fun w0 hSw => ?_⟩) hHeld ?_
          rotate_left
          · (try dsimp only at hSw)
            go_simp
            try with_reducible rfl
          simp only [Act.put, List.getElem_toArray, List.getElem_cons_succ, List.getElem_cons_zero, List.setIfInBounds_toArray, List.set_cons_zero, List.set_cons_succ]
          refine wpAnyH_take (i := 16) (v := ?_) rfl (by kernel_rfl) (by kernel_rfl) (by kernel_rfl) (fun _ _ _ h => h) (Or.inl ⟨by rfl, fun w0 hSw => ?_⟩) hHeld ?_
          rotate_left
          · (try dsimp only at hSw)
            go_simp
            try with_reducible rfl
          simp only [Act.put, List.getElem_toArray, List.getElem_cons_succ, List.getElem_cons_zero, List.setIfInBounds_toArray, List.set_cons_zero, List.set_cons_succ]
          refine wpAnyH_take (i := 17) (v := ?_) rfl (by kernel_rfl) (by kernel_rfl) (by kernel_rfl) (fun _ _ _ h => h) (Or.inl ⟨by rfl, fun w0 hSw => ?_⟩) hHeld ?_
          rotate_left
          · (try dsimp only at hSw)
            go_simp
            try with_reducible rfl
          simp only [Act.put, List.getElem_toArray, List.getElem_cons_succ, List.getElem_cons_zero, List.setIfInBounds_toArray, List.set_cons_zero, List.set_cons_succ]
          refine wpAnyH_take (i := 18) (v := ?_) rfl (by kernel_rfl) (by kernel_rfl) (by kernel_rfl) (fun _ _ _ h => h) (Or.inl ⟨by rfl, fun w0 hSw => ?_⟩) hHeld ?_
          rotate_left
          · (try dsimp only at hSw)
            go_simp
            try with_reducible rfl
          simp only [Act.put, List.getElem_toArray, List.getElem_cons_succ, List.getElem_cons_zero, List.setIfInBounds_toArray, List.set_cons_zero, List.set_cons_succ]
          refine wpAnyH_ready (rs := [19]) (by kernel_rfl) (by simp) ?_
          refine AllReadyH.cons (o := _) rfl (fun K hK => ?_) AllReadyH.nil
          go_simp
          go_at_call 44; refine (J1.out _).mono ?_; rintro e w25 ⟨v25, rfl, b25, o25⟩; have O25 := Lib.hid o25; clear o25; (first | have XE := Ext.trans XE b25 | have XE := Ext.trans (Ext.trans XE (Ext.alloc _ _)) b25)
          go_wp2_with fail
          refine hK.out _ _ (⟨(C5.out.ext XE).c4, (C6.out.ext XE).c4, HB4.out.ext XE, (G2.out.ext XE).c3⟩) (fun hHeld => ?_)
          clear hK K
          try simp only [Act.put, List.getElem_toArray, List.getElem_cons_succ, List.getElem_cons_zero, List.setIfInBounds_toArray, List.set_cons_zero, List.set_cons_succ]
          refine wpAnyH_ready (rs := [20]) (by kernel_rfl) (by simp) ?_
          refine AllReadyH.cons (o := _) rfl (fun K hK => ?_) AllReadyH.nil
          go_simp
          go_at_call 30; refine (Q1.out ▸ rcmp_any (HQ.out.rd.ext XE) O25.out.rd (Z1.out.le (by decide)) (Z1.out.le (by decide))).mono ?_; rintro e w26 ⟨_, rfl, b26, rfl⟩; (first | have XE := Ext.trans XE b26 | have XE := Ext.trans (Ext.trans XE (Ext.alloc _ _)) b26)
          go_wp2_with fail
          refine hK.out _ _ (⟨(C5.out.ext XE).c4, (C6.out.ext XE).c4, HB4.out.ext XE, (G2.out.ext XE).c3⟩) (fun hHeld => ?_)
          clear hK K
          try simp only [Act.put, List.getElem_toArray, List.getElem_cons_succ, List.getElem_cons_zero, List.setIfInBounds_toArray, List.set_cons_zero, List.set_cons_succ]
          refine wpAnyH_take (i := 21) (v := ?_) rfl (by kernel_rfl) (by kernel_rfl) (by kernel_rfl) (fun _ _ _ h => h) (Or.inl ⟨by rfl, fun w0 hSw => ?_⟩) hHeld ?_
          rotate_left
          · (try dsimp only at hSw)
            go_simp
            try with_reducible rfl
          simp only [Act.put, List.getElem_toArray, List.getElem_cons_succ, List.getElem_cons_zero, List.setIfInBounds_toArray, List.set_cons_zero, List.set_cons_succ]
          refine wpAnyH_take (i := 22) (v := ?_) rfl (by kernel_rfl) (by kernel_rfl) (by kernel_rfl) (fun _ _ _ h => h) (Or.inl ⟨by rfl, fun w0 hSw => ?_⟩) hHeld ?_
          rotate_left
          · (try dsimp only at hSw)
            go_simp
            try with_reducible rfl
          simp only [Act.put, List.getElem_toArray, List.getElem_cons_succ, List.getElem_cons_zero, List.setIfInBounds_toArray, List.set_cons_zero, List.set_cons_succ]
          refine wpAnyH_take (i := 23) (v := ?_) rfl (by kernel_rfl) (by kernel_rfl) (by kernel_rfl) (fun _ _ _ h => h) (Or.inl ⟨by rfl, fun w0 hSw => ?_⟩) hHeld ?_
          rotate_left
          · (try dsimp only at hSw)
            go_simp
            try with_reducible rfl
          simp only [Act.put, List.getElem_toArray, List.getElem_cons_succ, List.getElem_cons_zero, List.setIfInBounds_toArray, List.set_cons_zero, List.set_cons_succ]
          refine wpAnyH_take (i := 24) (v := ?_) rfl (by kernel_rfl) (by kernel_rfl) (by kernel_rfl) (fun _ _ _ h => h) (Or.inl ⟨by rfl, fun w0 hSw => ?_⟩) hHeld ?_
          rotate_left
          · (try dsimp only at hSw)
            go_simp
            try with_reducible rfl
          simp only [Act.put, List.getElem_toArray, List.getElem_cons_succ, List.getElem_cons_zero, List.setIfInBounds_toArray, List.set_cons_zero, List.set_cons_succ]
          refine wpAnyH_take (i := 25) (v := ?_) rfl (by kernel_rfl) (by kernel_rfl) (by kernel_rfl) (fun _ _ _ h => h) (Or.inl ⟨by rfl, fun w0 hSw => ?_⟩) hHeld ?_
          rotate_left
          · (try dsimp only at hSw)
            go_simp
            try with_reducible rfl
          simp only [Act.put, List.getElem_toArray, List.getElem_cons_succ, List.getElem_cons_zero, List.setIfInBounds_toArray, List.set_cons_zero, List.set_cons_succ]
          refine wpAnyH_ready (rs := [26]) (by kernel_rfl) (by simp) ?_
          refine AllReadyH.cons (o := _) rfl (fun K hK => ?_) AllReadyH.nil
          go_simp
          go_at_call 20; refine (Q0.out ▸ rsign_any (HQA.out.rd.ext XE)).mono ?_; rintro e w27 ⟨_, rfl, b27, rfl⟩; (first | have XE := Ext.trans XE b27 | have XE := Ext.trans (Ext.trans XE (Ext.alloc _ _)) b27)
          go_wp2_with fail
          refine hK.out _ _ (⟨(C5.out.ext XE).c4, (C6.out.ext XE).c4, HB4.out.ext XE, (G2.out.ext XE).c3⟩) (fun hHeld => ?_)
          clear hK K
          try simp only [Act.put, List.getElem_toArray, List.getElem_cons_succ, List.getElem_cons_zero, List.setIfInBounds_toArray, List.set_cons_zero, List.set_cons_succ]
          refine wpAnyH_take (i := 27) (v := ?_) rfl (by kernel_rfl) (by kernel_rfl) (by kernel_rfl) (fun _ _ _ h => h) (Or.inl ⟨by rfl, fun w0 hSw => ?_⟩) hHeld ?_
          rotate_left
          · (try dsimp only at hSw)
            go_simp
            try with_reducible rfl
          simp only [Act.put, List.getElem_toArray, List.getElem_cons_succ, List.getElem_cons_zero, List.setIfInBounds_toArray, List.set_cons_zero, List.set_cons_succ]
          refine wpAnyH_take (i := 28) (v := ?_) rfl (by kernel_rfl) (by kernel_rfl) (by kernel_rfl) (fun _ _ _ h => h) (Or.inl ⟨by rfl, fun w0 hSw => ?_⟩) hHeld ?_
          rotate_left
          · (try dsimp only at hSw)
            go_simp
            try with_reducible rfl
          simp only [Act.put, List.getElem_toArray, List.getElem_cons_succ, List.getElem_cons_zero, List.setIfInBounds_toArray, List.set_cons_zero, List.set_cons_succ]
          refine wpAnyH_take (i := 29) (v := ?_) rfl (by kernel_rfl) (by kernel_rfl) (by kernel_rfl) (fun _ _ _ h => h) (Or.inl ⟨by rfl, fun w0 hSw => ?_⟩) hHeld ?_
          rotate_left
          · (try dsimp only at hSw)
            go_simp
            try with_reducible rfl
          simp only [Act.put, List.getElem_toArray, List.getElem_cons_succ, List.getElem_cons_zero, List.setIfInBounds_toArray, List.set_cons_zero, List.set_cons_succ]
          refine wpAnyH_take (i := 30) (v := ?_) rfl (by kernel_rfl) (by kernel_rfl) (by kernel_rfl) (fun _ _ _ h => h) (Or.inl ⟨by rfl, fun w0 hSw => ?_⟩) hHeld ?_
          rotate_left
          · (try dsimp only at hSw)
            go_simp
            try with_reducible rfl
          simp only [Act.put, List.getElem_toArray, List.getElem_cons_succ, List.getElem_cons_zero, List.setIfInBounds_toArray, List.set_cons_zero, List.set_cons_succ]
          refine wpAnyH_take (i := 31) (v := ?_) rfl (by kernel_rfl) (by kernel_rfl) (by kernel_rfl) (fun _ _ _ h => h) (Or.inl ⟨by rfl, fun w0 hSw => ?_⟩) hHeld ?_
          rotate_left
          · (try dsimp only at hSw)
            go_simp
            try with_reducible rfl
          simp only [Act.put, List.getElem_toArray, List.getElem_cons_succ, List.getElem_cons_zero, List.setIfInBounds_toArray, List.set_cons_zero, List.set_cons_succ]
          refine wpAnyH_take (i := 32) (v := ?_) rfl (by kernel_rfl) (by kernel_rfl) (by kernel_rfl) (fun _ _ _ h => h) (Or.inl ⟨by rfl, fun w0 hSw => ?_⟩) hHeld ?_
          rotate_left
          · (try dsimp only at hSw)
            go_simp
            try with_reducible rfl
          simp only [Act.put, List.getElem_toArray, List.getElem_cons_succ, List.getElem_cons_zero, List.setIfInBounds_toArray, List.set_cons_zero, List.set_cons_succ]
          refine wpAnyH_take (i := 33) (v := ?_) rfl (by kernel_rfl) (by kernel_rfl) (by kernel_rfl) (fun _ _ _ h => h) (Or.inl ⟨by rfl, fun w0 hSw => ?_⟩) hHeld ?_
          rotate_left
          · (try dsimp only at hSw)
            go_simp
            try with_reducible rfl
          simp only [Act.put, List.getElem_toArray, List.getElem_cons_succ, List.getElem_cons_zero, List.setIfInBounds_toArray, List.set_cons_zero, List.set_cons_succ]
          refine wpAnyH_take (i := 34) (v := ?_) rfl (by kernel_rfl) (by kernel_rfl) (by kernel_rfl) (fun _ _ _ h => h) (Or.inl ⟨by rfl, fun w0 hSw => ?_⟩) hHeld ?_
          rotate_left
          · (try dsimp only at hSw)
            go_simp
            try with_reducible rfl
          simp only [Act.put, List.getElem_toArray, List.getElem_cons_succ, List.getElem_cons_zero, List.setIfInBounds_toArray, List.set_cons_zero, List.set_cons_succ]
          refine wpAnyH_take (i := 35) (v := ?_) rfl (by kernel_rfl) (by kernel_rfl) (by kernel_rfl) (fun _ _ _ h => h) (Or.inl ⟨by rfl, fun w0 hSw => ?_⟩) hHeld ?_
          rotate_left
          · (try dsimp only at hSw)
            go_simp
            try with_reducible rfl
          simp only [Act.put, List.getElem_toArray, List.getElem_cons_succ, List.getElem_cons_zero, List.setIfInBounds_toArray, List.set_cons_zero, List.set_cons_succ]
          refine wpAnyH_take (i := 36) (v := ?_) rfl (by kernel_rfl) (by kernel_rfl) (by kernel_rfl) (fun _ _ _ h => h) (Or.inl ⟨by rfl, fun w0 hSw => ?_⟩) hHeld ?_
          rotate_left
          · (try dsimp only at hSw)
            go_simp
            try with_reducible rfl
          simp only [Act.put, List.getElem_toArray, List.getElem_cons_succ, List.getElem_cons_zero, List.setIfInBounds_toArray, List.set_cons_zero, List.set_cons_succ]
          refine wpAnyH_take (i := 37) (v := ?_) rfl (by kernel_rfl) (by kernel_rfl) (by kernel_rfl) (fun _ _ _ h => h) (Or.inl ⟨by rfl, fun w0 hSw => ?_⟩) hHeld ?_
          rotate_left
          · (try dsimp only at hSw)
            go_simp
            try with_reducible rfl
          simp only [Act.put, List.getElem_toArray, List.getElem_cons_succ, List.getElem_cons_zero, List.setIfInBounds_toArray, List.set_cons_zero, List.set_cons_succ]
          refine wpAnyH_take (i := 38) (v := ?_) rfl (by kernel_rfl) (by kernel_rfl) (by kernel_rfl) (fun _ _ _ h => h) (Or.inl ⟨by rfl, fun w0 hSw => ?_⟩) hHeld ?_
          rotate_left
          · (try dsimp only at hSw)
            go_simp
            try with_reducible rfl
          simp only [Act.put, List.getElem_toArray, List.getElem_cons_succ, List.getElem_cons_zero, List.setIfInBounds_toArray, List.set_cons_zero, List.set_cons_succ]
          refine wpAnyH_ready (rs := [39]) (by kernel_rfl) (by simp) ?_
          refine AllReadyH.cons (o := _) rfl (fun K hK => ?_) AllReadyH.nil
          go_simp
          go_at_call 18; refine (HOF.out _ _ (HV2.out.ext (Ext.trans b023 XE))).mono ?_; rintro e w28 ⟨v28, rfl, b28, o28⟩; have O28 := Lib.hid o28; clear o28; (first | have XE := Ext.trans XE b28 | have XE := Ext.trans (Ext.trans XE (Ext.alloc _ _)) b28)
          go_wp2_with fail
          refine hK.out _ _ (⟨(C5.out.ext XE).c4, (C6.out.ext XE).c4, HB4.out.ext XE, (G2.out.ext XE).c3⟩) (fun hHeld => ?_)
          clear hK K
          try simp only [Act.put, List.getElem_toArray, List.getElem_cons_succ, List.getElem_cons_zero, List.setIfInBounds_toArray, List.set_cons_zero, List.set_cons_succ]
          refine wpAnyH_ready (rs := [40]) (by kernel_rfl) (by simp) ?_
          refine AllReadyH.cons (o := _) rfl (fun K hK => ?_) AllReadyH.nil
          go_simp
          go_at_call 30; refine (QR.out ▸ rcmp_any (HQB.out.rd.ext XE) O28.out.rd (ZR.out.le (by decide)) (ZR.out.le (by decide))).mono ?_; rintro e w29 ⟨_, rfl, b29, rfl⟩; (first | have XE := Ext.trans XE b29 | have XE := Ext.trans (Ext.trans XE (Ext.alloc _ _)) b29)
          go_wp2_with fail
          refine hK.out _ _ (⟨(C5.out.ext XE).c4, (C6.out.ext XE).c4, HB4.out.ext XE, (G2.out.ext XE).c3⟩) (fun hHeld => ?_)
          clear hK K
          try simp only [Act.put, List.getElem_toArray, List.getElem_cons_succ, List.getElem_cons_zero, List.setIfInBounds_toArray, List.set_cons_zero, List.set_cons_succ]
          refine wpAnyH_take (i := 41) (v := ?_) rfl (by kernel_rfl) (by kernel_rfl) (by kernel_rfl) (fun _ _ _ h => h) (Or.inl ⟨by rfl, fun w0 hSw => ?_⟩) hHeld ?_
          rotate_left
          · (try dsimp only at hSw)
            go_simp
            try with_reducible rfl
          simp only [Act.put, List.getElem_toArray, List.getElem_cons_succ, List.getElem_cons_zero, List.setIfInBounds_toArray, List.set_cons_zero, List.set_cons_succ]
          refine wpAnyH_take (i := 42) (v := ?_) rfl (by kernel_rfl) (by kernel_rfl) (by kernel_rfl) (fun _ _ _ h => h) (Or.inl ⟨by rfl, fun w0 hSw => ?_⟩) hHeld ?_
          rotate_left
          · (try dsimp only at hSw)
            go_simp
            try with_reducible rfl
          simp only [Act.put, List.getElem_toArray, List.getElem_cons_succ, List.getElem_cons_zero, List.setIfInBounds_toArray, List.set_cons_zero, List.set_cons_succ]
          refine wpAnyH_take (i := 43) (v := ?_) rfl (by kernel_rfl) (by kernel_rfl) (by kernel_rfl) (fun _ _ _ h => h) (Or.inl ⟨by rfl, fun w0 hSw => ?_⟩) hHeld ?_
          rotate_left
          · (try dsimp only at hSw)
            go_simp
            try with_reducible rfl
          simp only [Act.put, List.getElem_toArray, List.getElem_cons_succ, List.getElem_cons_zero, List.setIfInBounds_toArray, List.set_cons_zero, List.set_cons_succ]
          refine wpAnyH_done (by kernel_rfl) ?_ _
          refine NoPanic.normal ?_
          go_wp2_with fail
          exact hR.out _ _ (Gives.mk (Ext.trans b023 XE) rfl)
theorem own : ownKnob Try.prog.godebug = none := by kernel_rfl
theorem laidOut : laidOutB Try.prog = true := by kernel_rfl

set_option maxRecDepth 100000 in
theorem contract (H : Type) (enc : TypeId × Value → H) (W : World) (base : Nat) (args : Array Value) (ds gs : List (DataW H)) (before : List MemPlace)
    (hval : ∀ (j : Nat) t v, Try.f7.params[j]? = some t → args[j]? = some v → Value.okWide Try.prog W .any base t v)
    (hW : DataW.Whole enc Try.prog Try.f7.params.toList Rows.linFormsSpec.vars false W args.toList ds gs before) (hk : Rows.uptoSmall H (ds ++ gs) = true) :
    Calls Try.prog 7 args W fun e W' => ∃ v, e = .returned v ∧ Rows.linFormsSpec.post enc Try.prog Try.f7 false true false false W args v W' := by
  have hW' := hW
  obtain ⟨p, q, hA0, hV, rfl, hfz, hnd⟩ := hW
  have hA : DataW.TrodAll enc Try.prog W 0 (fun _ => true) true Try.f7.params.toList args.toList ds p := hA0
  rw [Try.params7] at hA hval
  obtain ⟨v0, vs0, d0, ds0, p0, q0, hargs, rfl, rfl, h0, r0⟩ := trodAll_cons hA
  obtain ⟨v1, vs1, d1, ds1, p1, q1, rfl, rfl, rfl, h1, r1⟩ := trodAll_cons r0
  obtain ⟨v2, vs2, d2, ds2, p2, q2, rfl, rfl, rfl, h2, r2⟩ := trodAll_cons r1
  obtain ⟨rfl, rfl, rfl⟩ := trodAll_nil r2
  obtain rfl : args = #[v0, v1, v2] := by cases args; simp_all
  obtain ⟨rfl, rfl⟩ := trodVars_none hV
  have hb := bulk_small hk
  simp only [List.append_nil, bulk_cons, bulk_nil] at hb
  have k0 := h0
  have lt0 : ∀ x ∈ p0, x.block < W.heap.size := by obtain ⟨m, hm⟩ := k0; exact DataW.trod_lt m _ _ _ hm
  obtain ⟨l0, n0, rd0, bd0, bn0, len0⟩ := open_E (hval 0 60 v0 rfl rfl) h0
  obtain ⟨a1, rfl, rfl, rfl, wf1⟩ := open_int Try.underlying3 (hval 1 3 v1 rfl rfl) h1
  have k2 := h2
  have lt2 : ∀ x ∈ p2, x.block < W.heap.size := by obtain ⟨m, hm⟩ := k2; exact DataW.trod_lt m _ _ _ hm
  obtain ⟨s2, x2, y2, rd2, len2⟩ := open_N (hval 2 25 v2 rfl rfl) h2
  clear hA0
  refine (walk rd0 (fun p hp => by have := bd0 p hp; omega) (by omega) (by omega) (wf_int wf1) rd2 (by omega) (by omega)).mono fun e W' ⟨v, he, bel, hv⟩ => ?_
  subst he hv
  exact ⟨_, rfl, _, _, _, [], _, [], hW', trodAll_mk1 (shut_bool Try.underlying4 _), (trodAll_cons_mk (Below.trod laidOut (by kernel_rfl) (of_decide_eq_true (by kernel_rfl)) k0 bel lt0) (trodAll_cons_mk (shut_int Try.underlying3 wf1) (trodAll_cons_mk (Below.trod laidOut (by kernel_rfl) (of_decide_eq_true (by kernel_rfl)) k2 bel lt2) trodAll_mk0))), rfl, bel.frame _, fun h => by cases h⟩

set_option maxRecDepth 100000 in
theorem lifted (os : Os) (started : os.Started) (H : Type) (enc : TypeId × Value → H) (F : Stop.Interp) :
    ReturnsInHanded {} Try.checked os 7 .any ((Rows.OpenSpec.upto Rows.linFormsSpec).pre6 enc Try.prog Try.f7 Rows.linFormsUptoRow.domain false) (((Rows.OpenSpec.upto Rows.linFormsSpec).at F).post enc Try.prog Try.f7 false true false false) := by
  refine returnsInHanded_of_cond (C := Try.checked) (s := Rows.OpenSpec.upto Rows.linFormsSpec) (k := Rows.uptoSmall) rfl own started (by kernel_rfl) Try.func7
    (OpenSpec.witness (enc := enc) (C := Try.checked) (s := Rows.OpenSpec.upto Rows.linFormsSpec) (k := Rows.uptoSmall) rfl false ⟨#[], #[.agg #[.slice none 0 0, .bool false, .slice none 0 0, .slice none 0 0], .int .i64 0, .agg #[.bool false, .slice none 0 0, .slice none 0 0]], []⟩ 8 (by kernel_rfl) (by kernel_rfl) (by kernel_rfl)
      (x := ([.agg [.nil, .agg [.lit (.bool false), .nil, .nil]], .lit (.int .i64 0), .agg [.lit (.bool false), .nil, .nil]], [], [])) (by kernel_rfl) rfl (by kernel_rfl)) ?_
  intro W base args ds gs before hval hW _ hk _
  exact contract H enc W base args ds gs before hval hW hk

theorem proved : Rows.LinFormsUptoSaid :=
  OpenClaim.holds_of_cond 7 Try.f7 rfl rfl rfl rfl rfl rfl rfl ⟨rfl, rfl, rfl, rfl, rfl⟩ rfl rfl rfl rfl rfl (by kernel_rfl) Try.func7 (by kernel_rfl)
    (of_decide_eq_true (by kernel_rfl)) (by unfold Func.isWrapper; first | (rw [if_pos (by decide +kernel)]; kernel_rfl) | (rw [if_neg (by decide +kernel)]; exact ⟨rfl, rfl⟩))
    (fun os started H enc _ F => lifted os started H enc F)
#print axioms proved

end Go.Proofs.Ytnbbhpihlcglgaa.linForms
