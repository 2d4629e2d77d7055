/- attestref08.Means, where the answer is yes -/
import Derived.Test.YtnbbhpihlcglgaaLinP
import Derived.Test.YtnbbhpihlcglgaaPR8Form
import Derived.Test.YtnbbhpihlcglgaaPR8Vars
import Derived.Test.YtnbbhpihlcglgaaRef5All
import Derived.Test.YtnbbhpihlcglgaaRowOne
namespace Go.Proofs.Ytnbbhpihlcglgaa
open Go.RowKit Go.Att

theorem bx5 (w : World) (l m k j i : List Value) (t t' t'' t3 t4 : TypeId) : ∃ W, W = ((((w.alloc (.cells l.toArray t)).alloc (.cells m.toArray t')).alloc (.cells k.toArray t'')).alloc (.cells j.toArray t3)).alloc (.cells i.toArray t4) ∧ Ext w W ∧ Bx W w.heap.size l ∧ Bx W (w.heap.size + 1) m ∧ Bx W (w.heap.size + 1 + 1) k ∧ Bx W (w.heap.size + 1 + 1 + 1) j ∧ Bx W (w.heap.size + 1 + 1 + 1 + 1) i := by
  obtain ⟨W, hW, e, b, b2, b3, b4, -, -, -, -, s⟩ := bx4 w l m k j t t' t'' t3
  obtain ⟨V, hV, e', b', -, -⟩ := bx1 W i t4
  rw [s] at b'
  exact ⟨V, by rw [hV, hW], e.trans e', b.ext e', b2.ext e', b3.ext e', b4.ext e', b'⟩
theorem _root_.Go.Att.Sz.fit {L : Nat} {q : Rat} (h : Sz L q) (hL : 32 * L ≤ 50000) : Sb 50000 q := h.bits.le hL
set_option linter.unusedSimpArgs false in
set_option maxHeartbeats 4000000 in
set_option maxRecDepth 100000 in
theorem r8means_yes {w : World} {vg va vb vp vq : Value} {lg la lb : TL} {cg ca cb p q : Rat} (hg : RdY w vg lg cg) (hp : OwnP 4 0 w vp p) (ha : RdY w va la ca) (hq : OwnP 4 0 w vq q) (hb : RdY w vb lb cb)
    (zg : Okx 380 lg cg) (zp : Sz 380 p) (za : Okx 380 la ca) (zq : Sz 380 q) (zb : Okx 380 lb cb) (hF : FormT lg) (hc : cg = p * ca + q * cb) (hx : ∀ x, cf lg x = p * cf la x + q * cf lb x) :
    Calls Try.prog 39 #[vg, vp, va, vq, vb] w (Gives w fun v' _ => v' = .bool true) := by
  refine via fun R hR => ?_
  have HG := Lib.hid hg
  have HA := Lib.hid ha
  have HB := Lib.hid hb
  have HP := Lib.hid hp
  have HQ := Lib.hid hq
  have ZG := Lib.hid zg
  have ZA := Lib.hid za
  have ZB := Lib.hid zb
  have ZP := Lib.hid zp
  have ZQ := Lib.hid zq
  have HZ : Hid ((cg - (p * ca + q * cb)).num.sign = 0) := by show _ = _; rw [← hc, Rat.sub_self]; rfl
  have HY : Hid (∀ x, (cf lg x - (p * cf la x + q * cf lb x)).num.sign = 0) := fun x => by rw [← hx, Rat.sub_self]; rfl
  have HFO : Hid (∀ w', Ext w w' → Calls Try.prog 99 #[vg] w' (Gives w' fun v' _ => v' = .bool true)) := fun w' x => (r8form_any (hg.ext x) (by have := zg.1; omega)).mono fun _ _ ⟨v, e, b, t, o, ht⟩ => ⟨v, e, b, by rw [o, ht.2 hF]⟩
  obtain ⟨a1, k1, s1, d1, m1, e1, d1', m1', e1', rfl, -, -, -, HGC⟩ := hg.op
  obtain ⟨s2, d2, m2, e2, d2', m2', e2', rfl, -⟩ := hp.op
  obtain ⟨a3, k3, s3, d3, m3, e3, d3', m3', e3', rfl, -, -, -, HAC⟩ := ha.op
  obtain ⟨s4, d4, m4, e4, d4', m4', e4', rfl, -⟩ := hq.op
  obtain ⟨a5, k5, s5, d5, m5, e5, d5', m5', e5', rfl, -, -, -, HBC⟩ := hb.op
  clear hg ha hb hp hq zg za zb zp zq hc hx hF
  obtain ⟨w1, hw1, b1, c1, c2, c3, c4, c5⟩ := bx5 w [.slice a1 lg.length k1, .bool s1, .slice d1 m1 e1, .slice d1' m1' e1'] [.bool s2, .slice d2 m2 e2, .slice d2' m2' e2'] [.slice a3 la.length k3, .bool s3, .slice d3 m3 e3, .slice d3' m3' e3'] [.bool s4, .slice d4 m4 e4, .slice d4' m4' e4'] [.slice a5 lb.length k5, .bool s5, .slice d5 m5 e5, .slice d5' m5' e5'] 69 46 69 46 69
  have HW := Lib.hid hw1
  have C1 := Lib.hid c1
  have C2 := Lib.hid c2
  have C3 := Lib.hid c3
  have C4 := Lib.hid c4
  have C5 := Lib.hid c5
  clear hw1 c1 c2 c3 c4 c5
  go_enter Try.func39, Try.ntmps39
  go_upto_region 1 with (fail)
  rw [← HW.out]
  clear HW
  have b2 := drew_ext w1
  have XE := b2
  refine wp_region_noPanic ?_
  refine wp_region_held_drew (S := fun w' => (w'.cell? ⟨w.heap.size, 0, none⟩ = some (.slice a1 lg.length k1) ∧ w'.cell? ⟨w.heap.size, 1, none⟩ = some (.bool s1) ∧ w'.cell? ⟨w.heap.size, 2, none⟩ = some (.slice d1 m1 e1) ∧ w'.cell? ⟨w.heap.size, 3, none⟩ = some (.slice d1' m1' e1')) ∧ (w'.cell? ⟨w.heap.size + 1, 0, none⟩ = some (.bool s2) ∧ w'.cell? ⟨w.heap.size + 1, 1, none⟩ = some (.slice d2 m2 e2) ∧ w'.cell? ⟨w.heap.size + 1, 2, none⟩ = some (.slice d2' m2' e2')) ∧ (w'.cell? ⟨w.heap.size + 1 + 1, 0, none⟩ = some (.slice a3 la.length k3) ∧ w'.cell? ⟨w.heap.size + 1 + 1, 1, none⟩ = some (.bool s3) ∧ w'.cell? ⟨w.heap.size + 1 + 1, 2, none⟩ = some (.slice d3 m3 e3) ∧ w'.cell? ⟨w.heap.size + 1 + 1, 3, none⟩ = some (.slice d3' m3' e3')) ∧ (w'.cell? ⟨w.heap.size + 1 + 1 + 1, 0, none⟩ = some (.bool s4) ∧ w'.cell? ⟨w.heap.size + 1 + 1 + 1, 1, none⟩ = some (.slice d4 m4 e4) ∧ w'.cell? ⟨w.heap.size + 1 + 1 + 1, 2, none⟩ = some (.slice d4' m4' e4')) ∧ (w'.cell? ⟨w.heap.size + 1 + 1 + 1 + 1, 0, none⟩ = some (.slice a5 lb.length k5) ∧ w'.cell? ⟨w.heap.size + 1 + 1 + 1 + 1, 1, none⟩ = some (.bool s5) ∧ w'.cell? ⟨w.heap.size + 1 + 1 + 1 + 1, 2, none⟩ = some (.slice d5 m5 e5) ∧ w'.cell? ⟨w.heap.size + 1 + 1 + 1 + 1, 3, none⟩ = some (.slice d5' m5' e5'))) (by kernel_rfl) (⟨(C1.out.ext XE).c4, (C2.out.ext XE).c3, (C3.out.ext XE).c4, (C4.out.ext XE).c3, (C5.out.ext XE).c4⟩) (fun hHeld => ?_)
  refine wpAnyH_take (i := 0) (v := ?_) rfl (by kernel_rfl) (by kernel_rfl) (by kernel_rfl) (fun _ _ _ h => h) (Or.inl ⟨by rfl, fun w0 hSw => ?_⟩) hHeld ?_
  rotate_left
  · (try dsimp only at hSw)
    go_simp
    try with_reducible rfl
  simp only [Act.put, List.getElem_toArray, List.getElem_cons_succ, List.getElem_cons_zero, List.setIfInBounds_toArray, List.set_cons_zero, List.set_cons_succ]
  refine wpAnyH_ready (rs := [1]) (by kernel_rfl) (by simp) ?_
  refine AllReadyH.cons (o := _) rfl (fun K hK => ?_) AllReadyH.nil
  go_simp
  go_at_call 99; refine (HFO.out _ (Ext.trans b1 XE)).mono ?_; rintro e w3 ⟨_, rfl, b3, rfl⟩; (first | have XE := Ext.trans XE b3 | have XE := Ext.trans (Ext.trans XE (Ext.alloc _ _)) b3)
  go_wp2_with fail
  refine hK.out _ _ (⟨(C1.out.ext XE).c4, (C2.out.ext XE).c3, (C3.out.ext XE).c4, (C4.out.ext XE).c3, (C5.out.ext XE).c4⟩) (fun hHeld => ?_)
  clear hK K
  try simp only [Act.put, List.getElem_toArray, List.getElem_cons_succ, List.getElem_cons_zero, List.setIfInBounds_toArray, List.set_cons_zero, List.set_cons_succ]
  refine wpAnyH_take (i := 2) (v := ?_) rfl (by kernel_rfl) (by kernel_rfl) (by kernel_rfl) (fun _ _ _ h => h) (Or.inl ⟨by rfl, fun w0 hSw => ?_⟩) hHeld ?_
  rotate_left
  · (try dsimp only at hSw)
    go_simp
    try with_reducible rfl
  simp only [Act.put, List.getElem_toArray, List.getElem_cons_succ, List.getElem_cons_zero, List.setIfInBounds_toArray, List.set_cons_zero, List.set_cons_succ]
  refine wpAnyH_take (i := 3) (v := ?_) rfl (by kernel_rfl) (by kernel_rfl) (by kernel_rfl) (fun _ _ _ h => h) (Or.inl ⟨by rfl, fun w0 hSw => ?_⟩) hHeld ?_
  rotate_left
  · (try dsimp only at hSw)
    go_simp
    try with_reducible rfl
  simp only [Act.put, List.getElem_toArray, List.getElem_cons_succ, List.getElem_cons_zero, List.setIfInBounds_toArray, List.set_cons_zero, List.set_cons_succ]
  refine wpAnyH_take (i := 4) (v := ?_) rfl (by kernel_rfl) (by kernel_rfl) (by kernel_rfl) (fun _ _ _ h => h) (Or.inl ⟨by rfl, fun w0 hSw => ?_⟩) hHeld ?_
  rotate_left
  · (try dsimp only at hSw)
    go_simp
    try with_reducible rfl
  simp only [Act.put, List.getElem_toArray, List.getElem_cons_succ, List.getElem_cons_zero, List.setIfInBounds_toArray, List.set_cons_zero, List.set_cons_succ]
  refine wpAnyH_take (i := 5) (v := ?_) rfl (by kernel_rfl) (by kernel_rfl) (by kernel_rfl) (fun _ _ _ h => h) (Or.inl ⟨by rfl, fun w0 hSw => ?_⟩) hHeld ?_
  rotate_left
  · (try dsimp only at hSw)
    go_simp
    try with_reducible rfl
  simp only [Act.put, List.getElem_toArray, List.getElem_cons_succ, List.getElem_cons_zero, List.setIfInBounds_toArray, List.set_cons_zero, List.set_cons_succ]
  refine wpAnyH_take (i := 6) (v := ?_) rfl (by kernel_rfl) (by kernel_rfl) (by kernel_rfl) (fun _ _ _ h => h) (Or.inl ⟨by rfl, fun w0 hSw => ?_⟩) hHeld ?_
  rotate_left
  · (try dsimp only at hSw)
    go_simp
    try with_reducible rfl
  simp only [Act.put, List.getElem_toArray, List.getElem_cons_succ, List.getElem_cons_zero, List.setIfInBounds_toArray, List.set_cons_zero, List.set_cons_succ]
  refine wpAnyH_take (i := 7) (v := ?_) rfl (by kernel_rfl) (by kernel_rfl) (by kernel_rfl) (fun _ _ _ h => h) (Or.inl ⟨by rfl, fun w0 hSw => ?_⟩) hHeld ?_
  rotate_left
  · (try dsimp only at hSw)
    go_simp
    try with_reducible rfl
  simp only [Act.put, List.getElem_toArray, List.getElem_cons_succ, List.getElem_cons_zero, List.setIfInBounds_toArray, List.set_cons_zero, List.set_cons_succ]
  refine wpAnyH_take (i := 8) (v := ?_) rfl (by kernel_rfl) (by kernel_rfl) (by kernel_rfl) (fun _ _ _ h => h) (Or.inl ⟨by rfl, fun w0 hSw => ?_⟩) hHeld ?_
  rotate_left
  · (try dsimp only at hSw)
    go_simp
    try with_reducible rfl
  simp only [Act.put, List.getElem_toArray, List.getElem_cons_succ, List.getElem_cons_zero, List.setIfInBounds_toArray, List.set_cons_zero, List.set_cons_succ]
  refine wpAnyH_take (i := 10) (v := ?_) rfl (by kernel_rfl) (by kernel_rfl) (by kernel_rfl) (fun _ _ _ h => h) (Or.inl ⟨by rfl, fun w0 hSw => ?_⟩) hHeld ?_
  rotate_left
  · (try dsimp only at hSw)
    go_simp
    try with_reducible rfl
  simp only [Act.put, List.getElem_toArray, List.getElem_cons_succ, List.getElem_cons_zero, List.setIfInBounds_toArray, List.set_cons_zero, List.set_cons_succ]
  refine wpAnyH_take (i := 11) (v := ?_) rfl (by kernel_rfl) (by kernel_rfl) (by kernel_rfl) (fun _ _ _ h => h) (Or.inl ⟨by rfl, fun w0 hSw => ?_⟩) hHeld ?_
  rotate_left
  · (try dsimp only at hSw)
    go_simp
    try with_reducible rfl
  simp only [Act.put, List.getElem_toArray, List.getElem_cons_succ, List.getElem_cons_zero, List.setIfInBounds_toArray, List.set_cons_zero, List.set_cons_succ]
  refine wpAnyH_take (i := 12) (v := ?_) rfl (by kernel_rfl) (by kernel_rfl) (by kernel_rfl) (fun _ _ _ h => h) (Or.inl ⟨by rfl, fun w0 hSw => ?_⟩) hHeld ?_
  rotate_left
  · (try dsimp only at hSw)
    go_simp
    try with_reducible rfl
  simp only [Act.put, List.getElem_toArray, List.getElem_cons_succ, List.getElem_cons_zero, List.setIfInBounds_toArray, List.set_cons_zero, List.set_cons_succ]
  refine wpAnyH_ready (rs := [9]) (by kernel_rfl) (by simp) ?_
  refine AllReadyH.cons (o := _) rfl (fun K hK => ?_) AllReadyH.nil
  go_simp
  go_at_call 100; refine (r5mul_any (HP.out.rd.ext (Ext.trans b1 XE)) (HAC.out.rd.ext (Ext.trans b1 XE)) (ZP.out.fit (by decide)) (ZA.out.2.2.2.fit (by decide))).mono ?_; rintro e w4 ⟨v4, rfl, b4, o4⟩; have O4 := Lib.hid o4; clear o4; (first | have XE := Ext.trans XE b4 | have XE := Ext.trans (Ext.trans XE (Ext.alloc _ _)) b4)
  go_wp2_with fail
  refine hK.out _ _ (⟨(C1.out.ext XE).c4, (C2.out.ext XE).c3, (C3.out.ext XE).c4, (C4.out.ext XE).c3, (C5.out.ext XE).c4⟩) (fun hHeld => ?_)
  clear hK K
  try simp only [Act.put, List.getElem_toArray, List.getElem_cons_succ, List.getElem_cons_zero, List.setIfInBounds_toArray, List.set_cons_zero, List.set_cons_succ]
  refine wpAnyH_ready (rs := [13]) (by kernel_rfl) (by simp) ?_
  refine AllReadyH.cons (o := _) rfl (fun K hK => ?_) AllReadyH.nil
  go_simp
  go_at_call 100; refine (r5mul_any (HQ.out.rd.ext (Ext.trans b1 XE)) (HBC.out.rd.ext (Ext.trans b1 XE)) (ZQ.out.fit (by decide)) (ZB.out.2.2.2.fit (by decide))).mono ?_; rintro e w5 ⟨v5, rfl, b5, o5⟩; have O5 := Lib.hid o5; clear o5; (first | have XE := Ext.trans XE b5 | have XE := Ext.trans (Ext.trans XE (Ext.alloc _ _)) b5)
  go_wp2_with fail
  refine hK.out _ _ (⟨(C1.out.ext XE).c4, (C2.out.ext XE).c3, (C3.out.ext XE).c4, (C4.out.ext XE).c3, (C5.out.ext XE).c4⟩) (fun hHeld => ?_)
  clear hK K
  try simp only [Act.put, List.getElem_toArray, List.getElem_cons_succ, List.getElem_cons_zero, List.setIfInBounds_toArray, List.set_cons_zero, List.set_cons_succ]
  refine wpAnyH_ready (rs := [14]) (by kernel_rfl) (by simp) ?_
  refine AllReadyH.cons (o := _) rfl (fun K hK => ?_) AllReadyH.nil
  go_simp
  go_at_call 85; refine (r5add_any (O4.out.rd.ext b5) O5.out.rd ((ZP.out.mul ZA.out.2.2.2).fit (by decide)) ((ZQ.out.mul ZB.out.2.2.2).fit (by decide))).mono ?_; rintro e w6 ⟨v6, rfl, b6, o6⟩; have O6 := Lib.hid o6; clear o6; (first | have XE := Ext.trans XE b6 | have XE := Ext.trans (Ext.trans XE (Ext.alloc _ _)) b6)
  go_wp2_with fail
  refine hK.out _ _ (⟨(C1.out.ext XE).c4, (C2.out.ext XE).c3, (C3.out.ext XE).c4, (C4.out.ext XE).c3, (C5.out.ext XE).c4⟩) (fun hHeld => ?_)
  clear hK K
  try simp only [Act.put, List.getElem_toArray, List.getElem_cons_succ, List.getElem_cons_zero, List.setIfInBounds_toArray, List.set_cons_zero, List.set_cons_succ]
  refine wpAnyH_ready (rs := [15]) (by kernel_rfl) (by simp) ?_
  refine AllReadyH.cons (o := _) rfl (fun K hK => ?_) AllReadyH.nil
  go_simp
  go_at_call 34; refine (HZ.out ▸ r5cmp_any (HGC.out.rd.ext (Ext.trans b1 XE)) O6.out.rd (ZG.out.2.2.2.fit (by decide)) (((ZP.out.mul ZA.out.2.2.2).add (ZQ.out.mul ZB.out.2.2.2)).fit (by decide))).mono ?_; rintro e w7 ⟨_, rfl, b7, rfl⟩; (first | have XE := Ext.trans XE b7 | have XE := Ext.trans (Ext.trans XE (Ext.alloc _ _)) b7)
  go_wp2_with fail
  refine hK.out _ _ (⟨(C1.out.ext XE).c4, (C2.out.ext XE).c3, (C3.out.ext XE).c4, (C4.out.ext XE).c3, (C5.out.ext XE).c4⟩) (fun hHeld => ?_)
  clear hK K
  try simp only [Act.put, List.getElem_toArray, List.getElem_cons_succ, List.getElem_cons_zero, List.setIfInBounds_toArray, List.set_cons_zero, List.set_cons_succ]
  refine wpAnyH_take (i := 16) (v := ?_) rfl (by kernel_rfl) (by kernel_rfl) (by kernel_rfl) (fun _ _ _ h => h) (Or.inl ⟨by rfl, fun w0 hSw => ?_⟩) hHeld ?_
  rotate_left
  · (try dsimp only at hSw)
    go_simp
    try with_reducible rfl
  simp only [Act.put, List.getElem_toArray, List.getElem_cons_succ, List.getElem_cons_zero, List.setIfInBounds_toArray, List.set_cons_zero, List.set_cons_succ]
  refine wpAnyH_take (i := 17) (v := ?_) rfl (by kernel_rfl) (by kernel_rfl) (by kernel_rfl) (fun _ _ _ h => h) (Or.inl ⟨by rfl, fun w0 hSw => ?_⟩) hHeld ?_
  rotate_left
  · (try dsimp only at hSw)
    go_simp
    try with_reducible rfl
  simp only [Act.put, List.getElem_toArray, List.getElem_cons_succ, List.getElem_cons_zero, List.setIfInBounds_toArray, List.set_cons_zero, List.set_cons_succ]
  refine wpAnyH_done (by kernel_rfl) ?_ _
  refine NoPanic.normal ?_
  have b17 := XE
  clear O4 O5 O6 HFO HZ HGC HAC HBC b2 b3 b4 b5 b6 b7 XE hHeld
  obtain ⟨g0, g1, g2, g3⟩ := (C1.out.ext b17).c4
  obtain ⟨h0, h1, h2, h3⟩ := (C3.out.ext b17).c4
  obtain ⟨i0, i1, i2, i3⟩ := (C5.out.ext b17).c4
  have b07 := Ext.trans b1 b17
  go_wp2_with fail
  have HT : RdRow 4 RdYp (w7.alloc (.cells #[.slice a1 lg.length k1, .bool s1, .slice d1 m1 e1, .slice d1' m1' e1', .slice a3 la.length k3, .bool s3, .slice d3 m3 e3, .slice d3' m3' e3', .slice a5 lb.length k5, .bool s5, .slice d5 m5 e5, .slice d5' m5' e5'] 69)) (.slice (some ⟨w7.heap.size, 0, none⟩) 3 3) [(lg, cg), (la, ca), (lb, cb)] :=
    RdRow.lit w7 [[.slice a1 lg.length k1, .bool s1, .slice d1 m1 e1, .slice d1' m1' e1'], [.slice a3 la.length k3, .bool s3, .slice d3 m3 e3, .slice d3' m3' e3'], [.slice a5 lb.length k5, .bool s5, .slice d5 m5 e5, .slice d5' m5' e5']] 69 ⟨⟨rfl, RdEy.ext HG.out b07⟩, ⟨rfl, RdEy.ext HA.out b07⟩, ⟨rfl, RdEy.ext HB.out b07⟩, trivial⟩ RdYp.ext (by unfold maxLen; simp)
  refine (r8vars_any HT (by decide : (3 : Nat) ≤ 1000) (by intro z hz; simp at hz; rcases hz with rfl | rfl | rfl <;> first | exact ZG.out.1 | exact ZA.out.1 | exact ZB.out.1)).mono ?_
  rintro e w8 ⟨v8, rfl, b8', vs, hvs, hvl, -⟩
  have b8 := Ext.trans b17 (Ext.trans (Ext.alloc _ _) b8')
  have HV := Lib.hid hvs
  obtain ⟨av, kv, rfl, hvk, hvm⟩ := hvs.shape
  clear hvs HT b8' g0 g1 g2 g3 h0 h1 h2 h3 i0 i1 i2 i3
  have b08 := Ext.trans b1 b8
  have D1 := Lib.hid (C1.out.ext b8)
  have D2 := Lib.hid (C2.out.ext b8)
  have D3 := Lib.hid (C3.out.ext b8)
  have D4 := Lib.hid (C4.out.ext b8)
  have D5 := Lib.hid (C5.out.ext b8)
  clear C1 C2 C3 C4 C5
  go_wp2_with fail
  go_loopw [37] (fun t wr => ∃ m : Nat, t = .int .i64 m ∧ m ≤ vs.length ∧ Ext w8 wr) (fun t _ => vs.length - (intOf t).toNat)
  case atStart => exact ⟨0, rfl, Nat.zero_le _, Ext.refl _⟩
  case round =>
    obtain ⟨m, rfl, hm, hx⟩ := hrel
    by_cases hml : m < vs.length
    · have hd : decide ((m : Int) < (vs.length : Int)) = true := decide_eq_true (by omega)
      obtain ⟨bV, oV, rfl⟩ := HV.out.some_atI hml
      have hM1 : IntKind.i64.wrap (m : Int) = (m : Int) := by rw [IntKind.wrap_i64]; omega
      have hM2 : (0 : Int) ≤ (m : Int) ∧ (m : Int) < (vs.length : Int) := ⟨by omega, by omega⟩
      have v0 := Ext.cell hx (HV.out.int m hml)
      generalize vs[m] = x at *
      obtain ⟨w9, hw9⟩ : ∃ w0 : World, w0 = wr := ⟨_, rfl⟩
      subst hw9
      have b09 := Ext.trans b08 hx
      have F1 := Lib.hid (D1.out.ext hx)
      have F2 := Lib.hid (D2.out.ext hx)
      have F3 := Lib.hid (D3.out.ext hx)
      have F4 := Lib.hid (D4.out.ext hx)
      have F5 := Lib.hid (D5.out.ext hx)
      go_upto_region 6 with (fail)
      clear v0
      have b10 := drew_ext w9
      have XE := b10
      refine wp_region_noPanic ?_
      refine wp_region_held_drew (S := fun w' => (w'.cell? ⟨w.heap.size, 0, none⟩ = some (.slice a1 lg.length k1) ∧ w'.cell? ⟨w.heap.size, 1, none⟩ = some (.bool s1) ∧ w'.cell? ⟨w.heap.size, 2, none⟩ = some (.slice d1 m1 e1) ∧ w'.cell? ⟨w.heap.size, 3, none⟩ = some (.slice d1' m1' e1')) ∧ (w'.cell? ⟨w.heap.size + 1, 0, none⟩ = some (.bool s2) ∧ w'.cell? ⟨w.heap.size + 1, 1, none⟩ = some (.slice d2 m2 e2) ∧ w'.cell? ⟨w.heap.size + 1, 2, none⟩ = some (.slice d2' m2' e2')) ∧ (w'.cell? ⟨w.heap.size + 1 + 1, 0, none⟩ = some (.slice a3 la.length k3) ∧ w'.cell? ⟨w.heap.size + 1 + 1, 1, none⟩ = some (.bool s3) ∧ w'.cell? ⟨w.heap.size + 1 + 1, 2, none⟩ = some (.slice d3 m3 e3) ∧ w'.cell? ⟨w.heap.size + 1 + 1, 3, none⟩ = some (.slice d3' m3' e3')) ∧ (w'.cell? ⟨w.heap.size + 1 + 1 + 1, 0, none⟩ = some (.bool s4) ∧ w'.cell? ⟨w.heap.size + 1 + 1 + 1, 1, none⟩ = some (.slice d4 m4 e4) ∧ w'.cell? ⟨w.heap.size + 1 + 1 + 1, 2, none⟩ = some (.slice d4' m4' e4')) ∧ (w'.cell? ⟨w.heap.size + 1 + 1 + 1 + 1, 0, none⟩ = some (.slice a5 lb.length k5) ∧ w'.cell? ⟨w.heap.size + 1 + 1 + 1 + 1, 1, none⟩ = some (.bool s5) ∧ w'.cell? ⟨w.heap.size + 1 + 1 + 1 + 1, 2, none⟩ = some (.slice d5 m5 e5) ∧ w'.cell? ⟨w.heap.size + 1 + 1 + 1 + 1, 3, none⟩ = some (.slice d5' m5' e5'))) (by kernel_rfl) (⟨(F1.out.ext XE).c4, (F2.out.ext XE).c3, (F3.out.ext XE).c4, (F4.out.ext XE).c3, (F5.out.ext XE).c4⟩) (fun hHeld => ?_)
      refine wpAnyH_take (i := 0) (v := ?_) rfl (by kernel_rfl) (by kernel_rfl) (by kernel_rfl) (fun _ _ _ h => h) (Or.inl ⟨by rfl, fun w0 hSw => ?_⟩) hHeld ?_
      rotate_left
      · (try dsimp only at hSw)
        go_simp
        try with_reducible rfl
      simp only [Act.put, List.getElem_toArray, List.getElem_cons_succ, List.getElem_cons_zero, List.setIfInBounds_toArray, List.set_cons_zero, List.set_cons_succ]
      refine wpAnyH_take (i := 1) (v := ?_) rfl (by kernel_rfl) (by kernel_rfl) (by kernel_rfl) (fun _ _ _ h => h) (Or.inl ⟨by rfl, fun w0 hSw => ?_⟩) hHeld ?_
      rotate_left
      · (try dsimp only at hSw)
        go_simp
        try with_reducible rfl
      simp only [Act.put, List.getElem_toArray, List.getElem_cons_succ, List.getElem_cons_zero, List.setIfInBounds_toArray, List.set_cons_zero, List.set_cons_succ]
      refine wpAnyH_take (i := 3) (v := ?_) rfl (by kernel_rfl) (by kernel_rfl) (by kernel_rfl) (fun _ _ _ h => h) (Or.inl ⟨by rfl, fun w0 hSw => ?_⟩) hHeld ?_
      rotate_left
      · (try dsimp only at hSw)
        go_simp
        try with_reducible rfl
      simp only [Act.put, List.getElem_toArray, List.getElem_cons_succ, List.getElem_cons_zero, List.setIfInBounds_toArray, List.set_cons_zero, List.set_cons_succ]
      refine wpAnyH_take (i := 4) (v := ?_) rfl (by kernel_rfl) (by kernel_rfl) (by kernel_rfl) (fun _ _ _ h => h) (Or.inl ⟨by rfl, fun w0 hSw => ?_⟩) hHeld ?_
      rotate_left
      · (try dsimp only at hSw)
        go_simp
        try with_reducible rfl
      simp only [Act.put, List.getElem_toArray, List.getElem_cons_succ, List.getElem_cons_zero, List.setIfInBounds_toArray, List.set_cons_zero, List.set_cons_succ]
      refine wpAnyH_take (i := 5) (v := ?_) rfl (by kernel_rfl) (by kernel_rfl) (by kernel_rfl) (fun _ _ _ h => h) (Or.inl ⟨by rfl, fun w0 hSw => ?_⟩) hHeld ?_
      rotate_left
      · (try dsimp only at hSw)
        go_simp
        try with_reducible rfl
      simp only [Act.put, List.getElem_toArray, List.getElem_cons_succ, List.getElem_cons_zero, List.setIfInBounds_toArray, List.set_cons_zero, List.set_cons_succ]
      refine wpAnyH_take (i := 8) (v := ?_) rfl (by kernel_rfl) (by kernel_rfl) (by kernel_rfl) (fun _ _ _ h => h) (Or.inl ⟨by rfl, fun w0 hSw => ?_⟩) hHeld ?_
      rotate_left
      · (try dsimp only at hSw)
        go_simp
        try with_reducible rfl
      simp only [Act.put, List.getElem_toArray, List.getElem_cons_succ, List.getElem_cons_zero, List.setIfInBounds_toArray, List.set_cons_zero, List.set_cons_succ]
      refine wpAnyH_take (i := 9) (v := ?_) rfl (by kernel_rfl) (by kernel_rfl) (by kernel_rfl) (fun _ _ _ h => h) (Or.inl ⟨by rfl, fun w0 hSw => ?_⟩) hHeld ?_
      rotate_left
      · (try dsimp only at hSw)
        go_simp
        try with_reducible rfl
      simp only [Act.put, List.getElem_toArray, List.getElem_cons_succ, List.getElem_cons_zero, List.setIfInBounds_toArray, List.set_cons_zero, List.set_cons_succ]
      refine wpAnyH_take (i := 10) (v := ?_) rfl (by kernel_rfl) (by kernel_rfl) (by kernel_rfl) (fun _ _ _ h => h) (Or.inl ⟨by rfl, fun w0 hSw => ?_⟩) hHeld ?_
      rotate_left
      · (try dsimp only at hSw)
        go_simp
        try with_reducible rfl
      simp only [Act.put, List.getElem_toArray, List.getElem_cons_succ, List.getElem_cons_zero, List.setIfInBounds_toArray, List.set_cons_zero, List.set_cons_succ]
      refine wpAnyH_ready (rs := [2]) (by kernel_rfl) (by simp) ?_
      refine AllReadyH.cons (o := _) rfl (fun K hK => ?_) AllReadyH.nil
      go_simp
      go_at_call 35; refine (r8coef_any (x := x) 380 (HG.out.ext (Ext.trans b09 XE)) ZG.out.2.1 (ZG.out.2.2.1 x) ZG.out.1 (by decide)).mono ?_; rintro e w11 ⟨v11, rfl, b11, o11⟩; have O11 := Lib.hid o11; clear o11; (first | have XE := Ext.trans XE b11 | have XE := Ext.trans (Ext.trans XE (Ext.alloc _ _)) b11)
      go_wp2_with fail
      refine hK.out _ _ (⟨(F1.out.ext XE).c4, (F2.out.ext XE).c3, (F3.out.ext XE).c4, (F4.out.ext XE).c3, (F5.out.ext XE).c4⟩) (fun hHeld => ?_)
      clear hK K
      try simp only [Act.put, List.getElem_toArray, List.getElem_cons_succ, List.getElem_cons_zero, List.setIfInBounds_toArray, List.set_cons_zero, List.set_cons_succ]
      refine wpAnyH_ready (rs := [6]) (by kernel_rfl) (by simp) ?_
      refine AllReadyH.cons (o := _) rfl (fun K hK => ?_) AllReadyH.nil
      go_simp
      go_at_call 35; refine (r8coef_any (x := x) 380 (HA.out.ext (Ext.trans b09 XE)) ZA.out.2.1 (ZA.out.2.2.1 x) ZA.out.1 (by decide)).mono ?_; rintro e w12 ⟨v12, rfl, b12, o12⟩; have O12 := Lib.hid o12; clear o12; (first | have XE := Ext.trans XE b12 | have XE := Ext.trans (Ext.trans XE (Ext.alloc _ _)) b12)
      go_wp2_with fail
      refine hK.out _ _ (⟨(F1.out.ext XE).c4, (F2.out.ext XE).c3, (F3.out.ext XE).c4, (F4.out.ext XE).c3, (F5.out.ext XE).c4⟩) (fun hHeld => ?_)
      clear hK K
      try simp only [Act.put, List.getElem_toArray, List.getElem_cons_succ, List.getElem_cons_zero, List.setIfInBounds_toArray, List.set_cons_zero, List.set_cons_succ]
      refine wpAnyH_ready (rs := [7]) (by kernel_rfl) (by simp) ?_
      refine AllReadyH.cons (o := _) rfl (fun K hK => ?_) AllReadyH.nil
      go_simp
      go_at_call 100; refine (r5mul_any (HP.out.rd.ext (Ext.trans b09 XE)) O12.out.rd (ZP.out.fit (by decide)) ((ZA.out.cf x).fit (by decide))).mono ?_; rintro e w13 ⟨v13, rfl, b13, o13⟩; have O13 := Lib.hid o13; clear o13; (first | have XE := Ext.trans XE b13 | have XE := Ext.trans (Ext.trans XE (Ext.alloc _ _)) b13)
      go_wp2_with fail
      refine hK.out _ _ (⟨(F1.out.ext XE).c4, (F2.out.ext XE).c3, (F3.out.ext XE).c4, (F4.out.ext XE).c3, (F5.out.ext XE).c4⟩) (fun hHeld => ?_)
      clear hK K
      try simp only [Act.put, List.getElem_toArray, List.getElem_cons_succ, List.getElem_cons_zero, List.setIfInBounds_toArray, List.set_cons_zero, List.set_cons_succ]
      refine wpAnyH_ready (rs := [11]) (by kernel_rfl) (by simp) ?_
      refine AllReadyH.cons (o := _) rfl (fun K hK => ?_) AllReadyH.nil
      go_simp
      go_at_call 35; refine (r8coef_any (x := x) 380 (HB.out.ext (Ext.trans b09 XE)) ZB.out.2.1 (ZB.out.2.2.1 x) ZB.out.1 (by decide)).mono ?_; rintro e w14 ⟨v14, rfl, b14, o14⟩; have O14 := Lib.hid o14; clear o14; (first | have XE := Ext.trans XE b14 | have XE := Ext.trans (Ext.trans XE (Ext.alloc _ _)) b14)
      go_wp2_with fail
      refine hK.out _ _ (⟨(F1.out.ext XE).c4, (F2.out.ext XE).c3, (F3.out.ext XE).c4, (F4.out.ext XE).c3, (F5.out.ext XE).c4⟩) (fun hHeld => ?_)
      clear hK K
      try simp only [Act.put, List.getElem_toArray, List.getElem_cons_succ, List.getElem_cons_zero, List.setIfInBounds_toArray, List.set_cons_zero, List.set_cons_succ]
      refine wpAnyH_ready (rs := [12]) (by kernel_rfl) (by simp) ?_
      refine AllReadyH.cons (o := _) rfl (fun K hK => ?_) AllReadyH.nil
      go_simp
      go_at_call 100; refine (r5mul_any (HQ.out.rd.ext (Ext.trans b09 XE)) O14.out.rd (ZQ.out.fit (by decide)) ((ZB.out.cf x).fit (by decide))).mono ?_; rintro e w15 ⟨v15, rfl, b15, o15⟩; have O15 := Lib.hid o15; clear o15; (first | have XE := Ext.trans XE b15 | have XE := Ext.trans (Ext.trans XE (Ext.alloc _ _)) b15)
      go_wp2_with fail
      refine hK.out _ _ (⟨(F1.out.ext XE).c4, (F2.out.ext XE).c3, (F3.out.ext XE).c4, (F4.out.ext XE).c3, (F5.out.ext XE).c4⟩) (fun hHeld => ?_)
      clear hK K
      try simp only [Act.put, List.getElem_toArray, List.getElem_cons_succ, List.getElem_cons_zero, List.setIfInBounds_toArray, List.set_cons_zero, List.set_cons_succ]
      refine wpAnyH_ready (rs := [13]) (by kernel_rfl) (by simp) ?_
      refine AllReadyH.cons (o := _) rfl (fun K hK => ?_) AllReadyH.nil
      go_simp
      go_at_call 85; refine (r5add_any (O13.out.rd.ext (Ext.trans b14 b15)) O15.out.rd ((ZP.out.mul (ZA.out.cf x)).fit (by decide)) ((ZQ.out.mul (ZB.out.cf x)).fit (by decide))).mono ?_; rintro e w16 ⟨v16, rfl, b16, o16⟩; have O16 := Lib.hid o16; clear o16; (first | have XE := Ext.trans XE b16 | have XE := Ext.trans (Ext.trans XE (Ext.alloc _ _)) b16)
      go_wp2_with fail
      refine hK.out _ _ (⟨(F1.out.ext XE).c4, (F2.out.ext XE).c3, (F3.out.ext XE).c4, (F4.out.ext XE).c3, (F5.out.ext XE).c4⟩) (fun hHeld => ?_)
      clear hK K
      try simp only [Act.put, List.getElem_toArray, List.getElem_cons_succ, List.getElem_cons_zero, List.setIfInBounds_toArray, List.set_cons_zero, List.set_cons_succ]
      refine wpAnyH_ready (rs := [14]) (by kernel_rfl) (by simp) ?_
      refine AllReadyH.cons (o := _) rfl (fun K hK => ?_) AllReadyH.nil
      go_simp
      go_at_call 34; refine (HY.out x ▸ r5cmp_any (O11.out.rd.ext (Ext.trans b12 (Ext.trans b13 (Ext.trans b14 (Ext.trans b15 b16))))) O16.out.rd ((ZG.out.cf x).fit (by decide)) (((ZP.out.mul (ZA.out.cf x)).add (ZQ.out.mul (ZB.out.cf x))).fit (by decide))).mono ?_; rintro e w17 ⟨_, rfl, b17, rfl⟩; (first | have XE := Ext.trans XE b17 | have XE := Ext.trans (Ext.trans XE (Ext.alloc _ _)) b17)
      go_wp2_with fail
      refine hK.out _ _ (⟨(F1.out.ext XE).c4, (F2.out.ext XE).c3, (F3.out.ext XE).c4, (F4.out.ext XE).c3, (F5.out.ext XE).c4⟩) (fun hHeld => ?_)
      clear hK K
      try simp only [Act.put, List.getElem_toArray, List.getElem_cons_succ, List.getElem_cons_zero, List.setIfInBounds_toArray, List.set_cons_zero, List.set_cons_succ]
      refine wpAnyH_take (i := 15) (v := ?_) rfl (by kernel_rfl) (by kernel_rfl) (by kernel_rfl) (fun _ _ _ h => h) (Or.inl ⟨by rfl, fun w0 hSw => ?_⟩) hHeld ?_
      rotate_left
      · (try dsimp only at hSw)
        go_simp
        try with_reducible rfl
      simp only [Act.put, List.getElem_toArray, List.getElem_cons_succ, List.getElem_cons_zero, List.setIfInBounds_toArray, List.set_cons_zero, List.set_cons_succ]
      refine wpAnyH_done (by kernel_rfl) ?_ _
      refine NoPanic.normal ?_
      go_wp2_with fail
      go_roundw
      case rel => exact ⟨m + 1, by go_num, by omega, Ext.trans hx XE⟩
      case measure => simp [intOf] <;> omega
    · obtain rfl : m = vs.length := by omega
      have hd : decide ((vs.length : Int) < (vs.length : Int)) = false := decide_eq_false (by omega)
      go_wp2_with fail
      exact hR.out _ _ (Gives.mk (Ext.trans b08 hx) rfl)
end Go.Proofs.Ytnbbhpihlcglgaa
