/- SpanEnds: ranges are scaled, added and cut off at 0 exactly, and it is told what they hold and on which side of 0 they lie. Conditions: the arguments hold together at most 1048576 values (the second form, Upto). -/
import Derived.Test.YtpeeacdnjbcmiaaFrameD
import Derived.Test.YtpeeacdnjbcmiaaPAwake17
import Derived.Test.YtpeeacdnjbcmiaaPOne17
import Derived.Test.YtpeeacdnjbcmiaaPRelu17
namespace Go.Proofs.Ytpeeacdnjbcmiaa.spanEnds
open Go.ChangeShapes Go.WideShapes Go.ChangeAt Go.RowKit Go.Att

theorem Sz.mn {L : Nat} {p q : Rat} (hp : Sz L p) (hq : Sz L q) : Sz L (mn p q) := by
  unfold Go.Proofs.Ytpeeacdnjbcmiaa.mn
  split
  · exact hp
  · exact hq
theorem Sz.mx {L : Nat} {p q : Rat} (hp : Sz L p) (hq : Sz L q) : Sz L (mx p q) := by
  unfold Go.Proofs.Ytpeeacdnjbcmiaa.mx
  split
  · exact hp
  · exact hq
/-- Three new blocks hold the two ranges and the number. -/
def Three (w0 w : World) (B C D : Nat) (x0 x1 x2 x3 x4 x5 y0 y1 y2 y3 y4 y5 z0 z1 z2 : Value) (a b c d r : Rat) : Prop := Ext w0 w ∧ Bx w B [x0, x1, x2, x3, x4, x5] ∧ Bx w C [y0, y1, y2, y3, y4, y5] ∧ Bx w D [z0, z1, z2] ∧
  RdD w (.agg #[x0, x1, x2, x3, x4, x5]) a b ∧ RdD w (.agg #[y0, y1, y2, y3, y4, y5]) c d ∧ RdQ w (.agg #[z0, z1, z2]) r
theorem OwnD.putT {e t : TypeId} {B c m : Nat} {w : World} {v : Value} {a b : Rat} (h : OwnD e B w v a b) (hc : Rt w c m t) (hne : e ≠ t) (i : Nat) (l : List Value) : OwnD e B (Att.putL w c i l) v a b := by
  obtain ⟨n, d, m, c, rfl, h1, h2, h3, h4⟩ := h
  exact ⟨_, _, _, _, rfl, h1.putT hc hne i l, h2.putT hc hne i l, h3.putT hc hne i l, h4.putT hc hne i l⟩
theorem Three.mk {e t t' : TypeId} {w0 w : World} {B C D : Nat} {x0 x1 x2 x3 x4 x5 y0 y1 y2 y3 y4 y5 z0 z1 z2 : Value} {a b c d r : Rat} (hne : e ≠ t) (hne' : e ≠ t') (hX : Ext w0 w) (rB : Rt w B 6 t) (rC : Rt w C 6 t) (rD : Rt w D 3 t') (sB : w0.heap.size ≤ B) (sC : w0.heap.size ≤ C) (sD : w0.heap.size ≤ D) (hBC : B ≠ C) (hBD : B ≠ D) (hCD : C ≠ D)
    (p : OwnD e w0.heap.size w (.agg #[x0, x1, x2, x3, x4, x5]) a b) (q : OwnD e w0.heap.size w (.agg #[y0, y1, y2, y3, y4, y5]) c d) (s : OwnQ e w0.heap.size w (.agg #[z0, z1, z2]) r) :
    Three w0 (put3 (put6 (put6 w B x0 x1 x2 x3 x4 x5) C y0 y1 y2 y3 y4 y5) D z0 z1 z2) B C D x0 x1 x2 x3 x4 x5 y0 y1 y2 y3 y4 y5 z0 z1 z2 a b c d r := by
  have c1 := rC.putL (Ne.symm hBC) 0 [x0, x1, x2, x3, x4, x5]
  have d1 := rD.putL (Ne.symm hBD) 0 [x0, x1, x2, x3, x4, x5]
  have d2 := d1.putL (Ne.symm hCD) 0 [y0, y1, y2, y3, y4, y5]
  have hb := rB.putL_at [x0, x1, x2, x3, x4, x5] rfl
  have hc := c1.putL_at [y0, y1, y2, y3, y4, y5] rfl
  have hd := d2.putL_at [z0, z1, z2] rfl
  refine ⟨put3_below (put6_below (put6_below hX sB _ _ _ _ _ _) sC _ _ _ _ _ _) sD _ _ _, (hb.1.put6 hBC y0 y1 y2 y3 y4 y5).put3 hBD z0 z1 z2, hc.1.put3 hCD z0 z1 z2, hd.1, ?_, ?_, ?_⟩
  · exact (OwnD.putT (OwnD.putT (OwnD.putT p rB hne 0 [x0, x1, x2, x3, x4, x5]) c1 hne 0 [y0, y1, y2, y3, y4, y5]) d2 hne' 0 [z0, z1, z2]).rd
  · exact (OwnD.putT (OwnD.putT (OwnD.putT q rB hne 0 [x0, x1, x2, x3, x4, x5]) c1 hne 0 [y0, y1, y2, y3, y4, y5]) d2 hne' 0 [z0, z1, z2]).rd
  · exact (OwnQ.putT (OwnQ.putT (OwnQ.putT s rB hne 0 [x0, x1, x2, x3, x4, x5]) c1 hne 0 [y0, y1, y2, y3, y4, y5]) d2 hne' 0 [z0, z1, z2]).rd
theorem RdD.fst {w : World} {x0 x1 x2 x3 x4 x5 : Value} {a b : Rat} (h : RdD w (.agg #[x0, x1, x2, x3, x4, x5]) a b) : RdQ w (.agg #[x0, x1, x2]) a := by
  obtain ⟨_, _, _, _, _, _, he, h1, -⟩ := h
  simp only [Value.agg.injEq, Array.mk.injEq, List.cons.injEq, and_true] at he
  obtain ⟨rfl, rfl, rfl, -, -, -⟩ := he
  exact h1
theorem RdD.snd {w : World} {x0 x1 x2 x3 x4 x5 : Value} {a b : Rat} (h : RdD w (.agg #[x0, x1, x2, x3, x4, x5]) a b) : RdQ w (.agg #[x3, x4, x5]) b := by
  obtain ⟨_, _, _, _, _, _, he, -, h1⟩ := h
  simp only [Value.agg.injEq, Array.mk.injEq, List.cons.injEq, and_true] at he
  obtain ⟨-, -, -, rfl, rfl, rfl⟩ := he
  exact h1
set_option maxHeartbeats 8000000 in
set_option maxRecDepth 100000 in
set_option linter.unusedSimpArgs false in
theorem walk {w : World} {v0 v1 v2 : Value} {s0 s0' s1 s1' s2 : Bool} {x0 y0 x0' y0' x1 y1 x1' y1' x2 y2 : List Nat} (hv0 : RdND w v0 s0 x0 y0 s0' x0' y0') (hx0 : x0.length ≤ 1048576) (hy0 : y0.length ≤ 1048576) (hx0' : x0'.length ≤ 1048576) (hy0' : y0'.length ≤ 1048576)
    (hv1 : RdND w v1 s1 x1 y1 s1' x1' y1') (hx1 : x1.length ≤ 1048576) (hy1 : y1.length ≤ 1048576) (hx1' : x1'.length ≤ 1048576) (hy1' : y1'.length ≤ 1048576)
    (hv2 : RdN w v2 s2 x2 y2) (hx2 : x2.length ≤ 1048576) (hy2 : y2.length ≤ 1048576) :
    Calls Try.prog 4 #[v0, v1, v2] w (Gives w fun v' _ => v' = .bool true) := by
  refine via fun R hR => ?_
  have HV0 := Lib.hid hv0
  have HV1 := Lib.hid hv1
  have HV2 := Lib.hid hv2
  obtain ⟨u0, u1, u2, u3, u4, u5, rfl, g1, g2⟩ := hv0
  obtain ⟨q0, q1, q2, q3, q4, q5, rfl, g3, g4⟩ := hv1
  have SA : Hid (Sz 8 (qOf s0 x0 y0)) := by obtain ⟨_, _, _, h1, h2⟩ := g1; exact qOf_sz h1.2 h2.2
  have SB : Hid (Sz 8 (qOf s0' x0' y0')) := by obtain ⟨_, _, _, h1, h2⟩ := g2; exact qOf_sz h1.2 h2.2
  have SC : Hid (Sz 8 (qOf s1 x1 y1)) := by obtain ⟨_, _, _, h1, h2⟩ := g3; exact qOf_sz h1.2 h2.2
  have SD : Hid (Sz 8 (qOf s1' x1' y1')) := by obtain ⟨_, _, _, h1, h2⟩ := g4; exact qOf_sz h1.2 h2.2
  have SE : Hid (Sz 8 (qOf s2 x2 y2)) := by obtain ⟨_, _, _, h1, h2⟩ := hv2; exact qOf_sz h1.2 h2.2
  obtain ⟨t1, t2, rfl, -, -⟩ := hv2
  clear g1 g2 g3 g4
  have HA : Hid (∀ (w : World) (v : Value), RdND w v s0 x0 y0 s0' x0' y0' → Calls Try.prog 31 #[v] w (Gives w fun v' w' => OwnD 148 w.heap.size w' v' (qOf s0 x0 y0) (qOf s0' x0' y0'))) := fun w v h => of17_any h (by omega) (by omega) (by omega) (by omega)
  have HB : Hid (∀ (w : World) (v : Value), RdND w v s1 x1 y1 s1' x1' y1' → Calls Try.prog 31 #[v] w (Gives w fun v' w' => OwnD 148 w.heap.size w' v' (qOf s1 x1 y1) (qOf s1' x1' y1'))) := fun w v h => of17_any h (by omega) (by omega) (by omega) (by omega)
  have HN : Hid (∀ (w : World) (v : Value), RdN w v s2 x2 y2 → Calls Try.prog 32 #[v] w (Gives w fun v' w' => OwnQ 148 w.heap.size w' v' (qOf s2 x2 y2))) := fun w v h => of8_any h (by omega) (by omega)
  generalize qOf s0 x0 y0 = a at *
  generalize qOf s0' x0' y0' = b at *
  generalize qOf s1 x1 y1 = c at *
  generalize qOf s1' x1' y1' = d at *
  generalize qOf s2 x2 y2 = r at *
  obtain ⟨w1, hw1, b1, c1, c2, c3, -, -, -, hz⟩ := bx3 w [u0, u1, u2, u3, u4, u5] [q0, q1, q2, q3, q4, q5] [.bool s2, t1, t2] 54 54 24
  have C1 := Lib.hid c1
  have C2 := Lib.hid c2
  have C3 := Lib.hid c3
  have HW := Lib.hid hw1
  have SZ : Hid (w.heap.size + 1 + 1 < w1.heap.size) := by show _ < _; omega
  clear hw1 c1 c2 c3 hz
  go_enter Try.func4, Try.ntmps4
  go_upto_region 1 with (fail)
  rw [← HW.out]
  clear HW
  go_cut [7, 8, 9] (fun s7 s8 s9 wx => ∃ (B C D : Nat) (x0 x1 x2 x3 x4 x5 y0 y1 y2 y3 y4 y5 z0 z1 z2 : Value), s7 = .pointer (some ⟨B, 0, none⟩) ∧ s8 = .pointer (some ⟨C, 0, none⟩) ∧ s9 = .pointer (some ⟨D, 0, none⟩) ∧ Hid (Three w1 wx B C D x0 x1 x2 x3 x4 x5 y0 y1 y2 y3 y4 y5 z0 z1 z2 a b c d r))
  case first =>
    refine wp_region_noPanic ?_
    refine region_cap fun O Q9 hO hQ => ?_
    obtain ⟨SS, hSS⟩ : ∃ SS : World → Prop, Hid (SS = fun w' => (w'.cell? ⟨w.heap.size, 0, none⟩ = some (u0) ∧ w'.cell? ⟨w.heap.size, 1, none⟩ = some (u1) ∧ w'.cell? ⟨w.heap.size, 2, none⟩ = some (u2) ∧ w'.cell? ⟨w.heap.size, 3, none⟩ = some (u3) ∧ w'.cell? ⟨w.heap.size, 4, none⟩ = some (u4) ∧ w'.cell? ⟨w.heap.size, 5, none⟩ = some (u5)) ∧ (w'.cell? ⟨w.heap.size + 1, 0, none⟩ = some (q0) ∧ w'.cell? ⟨w.heap.size + 1, 1, none⟩ = some (q1) ∧ w'.cell? ⟨w.heap.size + 1, 2, none⟩ = some (q2) ∧ w'.cell? ⟨w.heap.size + 1, 3, none⟩ = some (q3) ∧ w'.cell? ⟨w.heap.size + 1, 4, none⟩ = some (q4) ∧ w'.cell? ⟨w.heap.size + 1, 5, none⟩ = some (q5)) ∧ (w'.cell? ⟨w.heap.size + 1 + 1, 0, none⟩ = some (.bool s2) ∧ w'.cell? ⟨w.heap.size + 1 + 1, 1, none⟩ = some (t1) ∧ w'.cell? ⟨w.heap.size + 1 + 1, 2, none⟩ = some (t2))) := ⟨_, rfl⟩
    have KP : Hid (∀ wv, Ext w1 wv → SS wv) := fun wv XE => by rw [hSS.out]; exact ⟨(C1.out.ext XE).c6, (C2.out.ext XE).c6, (C3.out.ext XE).c3⟩
    have L3_6_7_8 : ∀ (wv : World) (v1 v3 v5 : Value) (B6 B7 B8 : Nat), Hid (Ext w1 wv) → Hid (OwnD 148 w1.heap.size wv v1 a b) → Hid (OwnD 148 w1.heap.size wv v3 c d) → Hid (OwnQ 148 w1.heap.size wv v5 r) → Hid (Rt wv B6 6 56) → Hid (w1.heap.size ≤ B6) → Hid (Rt wv B7 6 56) → Hid (w1.heap.size ≤ B7) → Hid (Rt wv B8 3 28) → Hid (w1.heap.size ≤ B8) → Hid (B6 ≠ B7) → Hid (B6 ≠ B8) → Hid (B7 ≠ B8) → wpAnyH Try.prog .any O Q9 SS 3 #[true, true, true, true, true, true, true, true, true, false, false, false] ⟨#[.agg #[u0, u1, u2, u3, u4, u5], .agg #[q0, q1, q2, q3, q4, q5], .agg #[.bool s2, t1, t2], .pointer (some ⟨w.heap.size, 0, none⟩), .pointer (some ⟨w.heap.size + 1, 0, none⟩), .pointer (some ⟨w.heap.size + 1 + 1, 0, none⟩), .bool false, .pointer (some ⟨B6, 0, none⟩), .pointer (some ⟨B7, 0, none⟩), .pointer (some ⟨B8, 0, none⟩), undef, undef, .agg #[u0, u1, u2, u3, u4, u5], v1, .agg #[q0, q1, q2, q3, q4, q5], v3, .agg #[.bool s2, t1, t2], v5, undef, undef, undef, undef, undef, undef, undef, undef, undef, undef, undef, undef, undef, undef, undef, undef, undef, undef, undef, undef, undef, undef, undef, undef, undef, undef, undef, undef, undef, undef, undef, undef, undef, undef, undef, undef, undef, undef, undef, undef, undef, undef, undef, undef, undef, undef, undef, undef, undef, undef, undef, undef, undef, undef, undef, undef, undef, undef, undef, undef, undef, undef, undef, undef, undef, undef, undef, undef, undef, undef, undef, undef, undef, undef, undef, undef, undef, undef, undef], []⟩ wv := by
      intro wv v1 v3 v5 B6 B7 B8 hX p1 p3 p5 r6 s6 r7 s7 r8 s8 ne6_7 ne6_8 ne7_8
      have hO1 := hO.out
      have hQ1 := hQ.out
      subst hO1
      subst hQ1
      have XE := hX.out
      have hS1 := hSS.out
      subst hS1
      have hHeld : (fun w' => (w'.cell? ⟨w.heap.size, 0, none⟩ = some (u0) ∧ w'.cell? ⟨w.heap.size, 1, none⟩ = some (u1) ∧ w'.cell? ⟨w.heap.size, 2, none⟩ = some (u2) ∧ w'.cell? ⟨w.heap.size, 3, none⟩ = some (u3) ∧ w'.cell? ⟨w.heap.size, 4, none⟩ = some (u4) ∧ w'.cell? ⟨w.heap.size, 5, none⟩ = some (u5)) ∧ (w'.cell? ⟨w.heap.size + 1, 0, none⟩ = some (q0) ∧ w'.cell? ⟨w.heap.size + 1, 1, none⟩ = some (q1) ∧ w'.cell? ⟨w.heap.size + 1, 2, none⟩ = some (q2) ∧ w'.cell? ⟨w.heap.size + 1, 3, none⟩ = some (q3) ∧ w'.cell? ⟨w.heap.size + 1, 4, none⟩ = some (q4) ∧ w'.cell? ⟨w.heap.size + 1, 5, none⟩ = some (q5)) ∧ (w'.cell? ⟨w.heap.size + 1 + 1, 0, none⟩ = some (.bool s2) ∧ w'.cell? ⟨w.heap.size + 1 + 1, 1, none⟩ = some (t1) ∧ w'.cell? ⟨w.heap.size + 1 + 1, 2, none⟩ = some (t2))) wv := ⟨(C1.out.ext XE).c6, (C2.out.ext XE).c6, (C3.out.ext XE).c3⟩
      obtain ⟨n1, d1, m1, c1, rfl, on1, od1, om1, oc1⟩ := p1.out
      obtain ⟨n3, d3, m3, c3, rfl, on3, od3, om3, oc3⟩ := p3.out
      obtain ⟨n5, d5, rfl, on5, od5⟩ := p5.out
      obtain ⟨an1, cn1, rfl, -, -, -, -⟩ := on1.rd.1.shape
      obtain ⟨ad1, cd1, rfl, -, -, -, -⟩ := od1.rd.1.shape
      obtain ⟨am1, cm1, rfl, -, -, -, -⟩ := om1.rd.1.shape
      obtain ⟨ac1, cc1, rfl, -, -, -, -⟩ := oc1.rd.1.shape
      obtain ⟨an3, cn3, rfl, -, -, -, -⟩ := on3.rd.1.shape
      obtain ⟨ad3, cd3, rfl, -, -, -, -⟩ := od3.rd.1.shape
      obtain ⟨am3, cm3, rfl, -, -, -, -⟩ := om3.rd.1.shape
      obtain ⟨ac3, cc3, rfl, -, -, -, -⟩ := oc3.rd.1.shape
      obtain ⟨an5, cn5, rfl, -, -, -, -⟩ := on5.rd.1.shape
      obtain ⟨ad5, cd5, rfl, -, -, -, -⟩ := od5.rd.1.shape
      clear on1 od1 om1 oc1 on3 od3 om3 oc3 on5 od5
      obtain ⟨_, _, _, _, _, _, i0, i1, i2, i3, i4, i5, f0, f1, f2, f3, f4, f5⟩ := r6.out.rm.c6
      obtain ⟨_, _, _, _, _, _, j0, j1, j2, j3, j4, j5, g0, g1, g2, g3, g4, g5⟩ := r7.out.rm.c6
      obtain ⟨_, _, _, l0, l1, l2, m0, m1, m2⟩ := r8.out.rm.room3.cells
      have hs6 := s6.out
      have hs7 := s7.out
      have hs8 := s8.out
      have hsz := SZ.out
      have ka6 : w.heap.size ≠ B6 := by omega
      have kb6 : w.heap.size + 1 ≠ B6 := by omega
      have kc6 : w.heap.size + 1 + 1 ≠ B6 := by omega
      have ka7 : w.heap.size ≠ B7 := by omega
      have kb7 : w.heap.size + 1 ≠ B7 := by omega
      have kc7 : w.heap.size + 1 + 1 ≠ B7 := by omega
      have ka8 : w.heap.size ≠ B8 := by omega
      have kb8 : w.heap.size + 1 ≠ B8 := by omega
      have kc8 : w.heap.size + 1 + 1 ≠ B8 := by omega
      have n67 := ne6_7.out
      have n68 := ne6_8.out
      have n78 := ne7_8.out
      have n76 := Ne.symm n67
      have n86 := Ne.symm n68
      have n87 := Ne.symm n78
      refine wpAnyH_ready (rs := [9]) (by kernel_rfl) (by simp) ?_
      refine AllReadyH.cons (o := _) rfl (fun K hK => ?_) AllReadyH.nil
      go_simp
      refine hK.out _ _ (⟨((C1.out.ext XE).put6 ka6 _ _ _ _ _ _).c6, ((C2.out.ext XE).put6 kb6 _ _ _ _ _ _).c6, ((C3.out.ext XE).put6 kc6 _ _ _ _ _ _).c3⟩) (fun hHeld => ?_)
      clear hK K
      try simp only [Act.put, List.getElem_toArray, List.getElem_cons_succ, List.getElem_cons_zero, List.setIfInBounds_toArray, List.set_cons_zero, List.set_cons_succ]
      refine wpAnyH_ready (rs := [10]) (by kernel_rfl) (by simp) ?_
      refine AllReadyH.cons (o := _) rfl (fun K hK => ?_) AllReadyH.nil
      go_simp
      refine hK.out _ _ (⟨(((C1.out.ext XE).put6 ka6 _ _ _ _ _ _).put6 ka7 _ _ _ _ _ _).c6, (((C2.out.ext XE).put6 kb6 _ _ _ _ _ _).put6 kb7 _ _ _ _ _ _).c6, (((C3.out.ext XE).put6 kc6 _ _ _ _ _ _).put6 kc7 _ _ _ _ _ _).c3⟩) (fun hHeld => ?_)
      clear hK K
      try simp only [Act.put, List.getElem_toArray, List.getElem_cons_succ, List.getElem_cons_zero, List.setIfInBounds_toArray, List.set_cons_zero, List.set_cons_succ]
      refine wpAnyH_ready (rs := [11]) (by kernel_rfl) (by simp) ?_
      refine AllReadyH.cons (o := _) rfl (fun K hK => ?_) AllReadyH.nil
      go_simp
      refine hK.out _ _ (⟨((((C1.out.ext XE).put6 ka6 _ _ _ _ _ _).put6 ka7 _ _ _ _ _ _).put3 ka8 _ _ _).c6, ((((C2.out.ext XE).put6 kb6 _ _ _ _ _ _).put6 kb7 _ _ _ _ _ _).put3 kb8 _ _ _).c6, ((((C3.out.ext XE).put6 kc6 _ _ _ _ _ _).put6 kc7 _ _ _ _ _ _).put3 kc8 _ _ _).c3⟩) (fun hHeld => ?_)
      clear hK K
      try simp only [Act.put, List.getElem_toArray, List.getElem_cons_succ, List.getElem_cons_zero, List.setIfInBounds_toArray, List.set_cons_zero, List.set_cons_succ]
      refine wpAnyH_done (by kernel_rfl) ?_ _
      refine NoPanic.normal ?_
      go_wp2_with fail
      go_meet
      exact ⟨_, _, _, _, _, _, _, _, _, _, _, _, _, _, _, _, _, _, rfl, rfl, rfl, Three.mk (by decide) (by decide) hX.out r6.out r7.out r8.out s6.out s7.out s8.out ne6_7.out ne6_8.out ne7_8.out p1.out p3.out p5.out⟩
    have L2_6_7_8 : ∀ (wv : World) (v1 v3 : Value) (B6 B7 B8 : Nat), Hid (Ext w1 wv) → Hid (OwnD 148 w1.heap.size wv v1 a b) → Hid (OwnD 148 w1.heap.size wv v3 c d) → Hid (Rt wv B6 6 56) → Hid (w1.heap.size ≤ B6) → Hid (Rt wv B7 6 56) → Hid (w1.heap.size ≤ B7) → Hid (Rt wv B8 3 28) → Hid (w1.heap.size ≤ B8) → Hid (B6 ≠ B7) → Hid (B6 ≠ B8) → Hid (B7 ≠ B8) → wpAnyH Try.prog .any O Q9 SS 4 #[true, true, true, true, true, false, true, true, true, false, false, false] ⟨#[.agg #[u0, u1, u2, u3, u4, u5], .agg #[q0, q1, q2, q3, q4, q5], .agg #[.bool s2, t1, t2], .pointer (some ⟨w.heap.size, 0, none⟩), .pointer (some ⟨w.heap.size + 1, 0, none⟩), .pointer (some ⟨w.heap.size + 1 + 1, 0, none⟩), .bool false, .pointer (some ⟨B6, 0, none⟩), .pointer (some ⟨B7, 0, none⟩), .pointer (some ⟨B8, 0, none⟩), undef, undef, .agg #[u0, u1, u2, u3, u4, u5], v1, .agg #[q0, q1, q2, q3, q4, q5], v3, .agg #[.bool s2, t1, t2], undef, undef, undef, undef, undef, undef, undef, undef, undef, undef, undef, undef, undef, undef, undef, undef, undef, undef, undef, undef, undef, undef, undef, undef, undef, undef, undef, undef, undef, undef, undef, undef, undef, undef, undef, undef, undef, undef, undef, undef, undef, undef, undef, undef, undef, undef, undef, undef, undef, undef, undef, undef, undef, undef, undef, undef, undef, undef, undef, undef, undef, undef, undef, undef, undef, undef, undef, undef, undef, undef, undef, undef, undef, undef, undef, undef, undef, undef, undef, undef], []⟩ wv := by
      intro wv v1 v3 B6 B7 B8 hX p1 p3 r6 s6 r7 s7 r8 s8 ne6_7 ne6_8 ne7_8
      have hO1 := hO.out
      have hQ1 := hQ.out
      subst hO1
      subst hQ1
      have XE := hX.out
      refine wpAnyH_ready (rs := [5]) (by kernel_rfl) (by simp) ?_
      refine AllReadyH.cons (o := _) rfl (fun K hK => ?_) AllReadyH.nil
      · skip
        go_simp
        go_at_call 32
        refine (HN.out _ _ (HV2.out.ext (Ext.trans b1 XE))).mono ?_
        rintro e wn ⟨vn, rfl, bn, on⟩
        go_wp2_with fail
        refine hK.out _ _ (KP.out _ (Ext.trans XE bn)) (fun _ => ?_)
        clear hK K
        try simp only [Act.put, List.getElem_toArray, List.getElem_cons_succ, List.getElem_cons_zero, List.setIfInBounds_toArray, List.set_cons_zero, List.set_cons_succ]
        exact wpAnyH_to (L3_6_7_8 wn v1 v3 vn B6 B7 B8 (Ext.trans XE bn) (p1.out.ext bn) (p3.out.ext bn) (on.mono (Below.size XE)) (r6.out.ext bn) s6 (r7.out.ext bn) s7 (r8.out.ext bn) s8 ne6_7 ne6_8 ne7_8) (by kernel_rfl) (by kernel_rfl) rfl rfl
    have L3_6_7 : ∀ (wv : World) (v1 v3 v5 : Value) (B6 B7 : Nat), Hid (Ext w1 wv) → Hid (OwnD 148 w1.heap.size wv v1 a b) → Hid (OwnD 148 w1.heap.size wv v3 c d) → Hid (OwnQ 148 w1.heap.size wv v5 r) → Hid (Rt wv B6 6 56) → Hid (w1.heap.size ≤ B6) → Hid (Rt wv B7 6 56) → Hid (w1.heap.size ≤ B7) → Hid (B6 ≠ B7) → wpAnyH Try.prog .any O Q9 SS 4 #[true, true, true, true, true, true, true, true, false, false, false, false] ⟨#[.agg #[u0, u1, u2, u3, u4, u5], .agg #[q0, q1, q2, q3, q4, q5], .agg #[.bool s2, t1, t2], .pointer (some ⟨w.heap.size, 0, none⟩), .pointer (some ⟨w.heap.size + 1, 0, none⟩), .pointer (some ⟨w.heap.size + 1 + 1, 0, none⟩), .bool false, .pointer (some ⟨B6, 0, none⟩), .pointer (some ⟨B7, 0, none⟩), undef, undef, undef, .agg #[u0, u1, u2, u3, u4, u5], v1, .agg #[q0, q1, q2, q3, q4, q5], v3, .agg #[.bool s2, t1, t2], v5, undef, undef, undef, undef, undef, undef, undef, undef, undef, undef, undef, undef, undef, undef, undef, undef, undef, undef, undef, undef, undef, undef, undef, undef, undef, undef, undef, undef, undef, undef, undef, undef, undef, undef, undef, undef, undef, undef, undef, undef, undef, undef, undef, undef, undef, undef, undef, undef, undef, undef, undef, undef, undef, undef, undef, undef, undef, undef, undef, undef, undef, undef, undef, undef, undef, undef, undef, undef, undef, undef, undef, undef, undef, undef, undef, undef, undef, undef, undef], []⟩ wv := by
      intro wv v1 v3 v5 B6 B7 hX p1 p3 p5 r6 s6 r7 s7 ne6_7
      have hO1 := hO.out
      have hQ1 := hQ.out
      subst hO1
      subst hQ1
      have XE := hX.out
      refine wpAnyH_ready (rs := [8]) (by kernel_rfl) (by simp) ?_
      refine AllReadyH.cons (o := _) rfl (fun K hK => ?_) AllReadyH.nil
      · skip
        go_simp
        refine hK.out _ _ (KP.out _ (Ext.trans XE (Ext.alloc wv (.cells [.bool false, .slice none 0 0, .slice none 0 0].toArray 28)))) (fun _ => ?_)
        clear hK K
        try simp only [Act.put, List.getElem_toArray, List.getElem_cons_succ, List.getElem_cons_zero, List.setIfInBounds_toArray, List.set_cons_zero, List.set_cons_succ]
        exact wpAnyH_to (L3_6_7_8 _ v1 v3 v5 B6 B7 wv.heap.size (Ext.trans XE (Ext.alloc wv (.cells [.bool false, .slice none 0 0, .slice none 0 0].toArray 28))) (p1.out.ext (Ext.alloc wv (.cells [.bool false, .slice none 0 0, .slice none 0 0].toArray 28))) (p3.out.ext (Ext.alloc wv (.cells [.bool false, .slice none 0 0, .slice none 0 0].toArray 28))) (p5.out.ext (Ext.alloc wv (.cells [.bool false, .slice none 0 0, .slice none 0 0].toArray 28))) (r6.out.ext (Ext.alloc wv (.cells [.bool false, .slice none 0 0, .slice none 0 0].toArray 28))) s6 (r7.out.ext (Ext.alloc wv (.cells [.bool false, .slice none 0 0, .slice none 0 0].toArray 28))) s7 (Rt.new wv [.bool false, .slice none 0 0, .slice none 0 0] 28) (Below.size XE) ne6_7 (Nat.ne_of_lt r6.out.lt) (Nat.ne_of_lt r7.out.lt)) (by kernel_rfl) (by kernel_rfl) rfl rfl
    have L3_6_8 : ∀ (wv : World) (v1 v3 v5 : Value) (B6 B8 : Nat), Hid (Ext w1 wv) → Hid (OwnD 148 w1.heap.size wv v1 a b) → Hid (OwnD 148 w1.heap.size wv v3 c d) → Hid (OwnQ 148 w1.heap.size wv v5 r) → Hid (Rt wv B6 6 56) → Hid (w1.heap.size ≤ B6) → Hid (Rt wv B8 3 28) → Hid (w1.heap.size ≤ B8) → Hid (B6 ≠ B8) → wpAnyH Try.prog .any O Q9 SS 4 #[true, true, true, true, true, true, true, false, true, false, false, false] ⟨#[.agg #[u0, u1, u2, u3, u4, u5], .agg #[q0, q1, q2, q3, q4, q5], .agg #[.bool s2, t1, t2], .pointer (some ⟨w.heap.size, 0, none⟩), .pointer (some ⟨w.heap.size + 1, 0, none⟩), .pointer (some ⟨w.heap.size + 1 + 1, 0, none⟩), .bool false, .pointer (some ⟨B6, 0, none⟩), undef, .pointer (some ⟨B8, 0, none⟩), undef, undef, .agg #[u0, u1, u2, u3, u4, u5], v1, .agg #[q0, q1, q2, q3, q4, q5], v3, .agg #[.bool s2, t1, t2], v5, undef, undef, undef, undef, undef, undef, undef, undef, undef, undef, undef, undef, undef, undef, undef, undef, undef, undef, undef, undef, undef, undef, undef, undef, undef, undef, undef, undef, undef, undef, undef, undef, undef, undef, undef, undef, undef, undef, undef, undef, undef, undef, undef, undef, undef, undef, undef, undef, undef, undef, undef, undef, undef, undef, undef, undef, undef, undef, undef, undef, undef, undef, undef, undef, undef, undef, undef, undef, undef, undef, undef, undef, undef, undef, undef, undef, undef, undef, undef], []⟩ wv := by
      intro wv v1 v3 v5 B6 B8 hX p1 p3 p5 r6 s6 r8 s8 ne6_8
      have hO1 := hO.out
      have hQ1 := hQ.out
      subst hO1
      subst hQ1
      have XE := hX.out
      refine wpAnyH_ready (rs := [7]) (by kernel_rfl) (by simp) ?_
      refine AllReadyH.cons (o := _) rfl (fun K hK => ?_) AllReadyH.nil
      · skip
        go_simp
        refine hK.out _ _ (KP.out _ (Ext.trans XE (Ext.alloc wv (.cells [.bool false, .slice none 0 0, .slice none 0 0, .bool false, .slice none 0 0, .slice none 0 0].toArray 56)))) (fun _ => ?_)
        clear hK K
        try simp only [Act.put, List.getElem_toArray, List.getElem_cons_succ, List.getElem_cons_zero, List.setIfInBounds_toArray, List.set_cons_zero, List.set_cons_succ]
        exact wpAnyH_to (L3_6_7_8 _ v1 v3 v5 B6 wv.heap.size B8 (Ext.trans XE (Ext.alloc wv (.cells [.bool false, .slice none 0 0, .slice none 0 0, .bool false, .slice none 0 0, .slice none 0 0].toArray 56))) (p1.out.ext (Ext.alloc wv (.cells [.bool false, .slice none 0 0, .slice none 0 0, .bool false, .slice none 0 0, .slice none 0 0].toArray 56))) (p3.out.ext (Ext.alloc wv (.cells [.bool false, .slice none 0 0, .slice none 0 0, .bool false, .slice none 0 0, .slice none 0 0].toArray 56))) (p5.out.ext (Ext.alloc wv (.cells [.bool false, .slice none 0 0, .slice none 0 0, .bool false, .slice none 0 0, .slice none 0 0].toArray 56))) (r6.out.ext (Ext.alloc wv (.cells [.bool false, .slice none 0 0, .slice none 0 0, .bool false, .slice none 0 0, .slice none 0 0].toArray 56))) s6 (Rt.new wv [.bool false, .slice none 0 0, .slice none 0 0, .bool false, .slice none 0 0, .slice none 0 0] 56) (Below.size XE) (r8.out.ext (Ext.alloc wv (.cells [.bool false, .slice none 0 0, .slice none 0 0, .bool false, .slice none 0 0, .slice none 0 0].toArray 56))) s8 (Nat.ne_of_lt r6.out.lt) ne6_8 (Nat.ne_of_gt r8.out.lt)) (by kernel_rfl) (by kernel_rfl) rfl rfl
    have L3_7_8 : ∀ (wv : World) (v1 v3 v5 : Value) (B7 B8 : Nat), Hid (Ext w1 wv) → Hid (OwnD 148 w1.heap.size wv v1 a b) → Hid (OwnD 148 w1.heap.size wv v3 c d) → Hid (OwnQ 148 w1.heap.size wv v5 r) → Hid (Rt wv B7 6 56) → Hid (w1.heap.size ≤ B7) → Hid (Rt wv B8 3 28) → Hid (w1.heap.size ≤ B8) → Hid (B7 ≠ B8) → wpAnyH Try.prog .any O Q9 SS 4 #[true, true, true, true, true, true, false, true, true, false, false, false] ⟨#[.agg #[u0, u1, u2, u3, u4, u5], .agg #[q0, q1, q2, q3, q4, q5], .agg #[.bool s2, t1, t2], .pointer (some ⟨w.heap.size, 0, none⟩), .pointer (some ⟨w.heap.size + 1, 0, none⟩), .pointer (some ⟨w.heap.size + 1 + 1, 0, none⟩), .bool false, undef, .pointer (some ⟨B7, 0, none⟩), .pointer (some ⟨B8, 0, none⟩), undef, undef, .agg #[u0, u1, u2, u3, u4, u5], v1, .agg #[q0, q1, q2, q3, q4, q5], v3, .agg #[.bool s2, t1, t2], v5, undef, undef, undef, undef, undef, undef, undef, undef, undef, undef, undef, undef, undef, undef, undef, undef, undef, undef, undef, undef, undef, undef, undef, undef, undef, undef, undef, undef, undef, undef, undef, undef, undef, undef, undef, undef, undef, undef, undef, undef, undef, undef, undef, undef, undef, undef, undef, undef, undef, undef, undef, undef, undef, undef, undef, undef, undef, undef, undef, undef, undef, undef, undef, undef, undef, undef, undef, undef, undef, undef, undef, undef, undef, undef, undef, undef, undef, undef, undef], []⟩ wv := by
      intro wv v1 v3 v5 B7 B8 hX p1 p3 p5 r7 s7 r8 s8 ne7_8
      have hO1 := hO.out
      have hQ1 := hQ.out
      subst hO1
      subst hQ1
      have XE := hX.out
      refine wpAnyH_ready (rs := [6]) (by kernel_rfl) (by simp) ?_
      refine AllReadyH.cons (o := _) rfl (fun K hK => ?_) AllReadyH.nil
      · skip
        go_simp
        refine hK.out _ _ (KP.out _ (Ext.trans XE (Ext.alloc wv (.cells [.bool false, .slice none 0 0, .slice none 0 0, .bool false, .slice none 0 0, .slice none 0 0].toArray 56)))) (fun _ => ?_)
        clear hK K
        try simp only [Act.put, List.getElem_toArray, List.getElem_cons_succ, List.getElem_cons_zero, List.setIfInBounds_toArray, List.set_cons_zero, List.set_cons_succ]
        exact wpAnyH_to (L3_6_7_8 _ v1 v3 v5 wv.heap.size B7 B8 (Ext.trans XE (Ext.alloc wv (.cells [.bool false, .slice none 0 0, .slice none 0 0, .bool false, .slice none 0 0, .slice none 0 0].toArray 56))) (p1.out.ext (Ext.alloc wv (.cells [.bool false, .slice none 0 0, .slice none 0 0, .bool false, .slice none 0 0, .slice none 0 0].toArray 56))) (p3.out.ext (Ext.alloc wv (.cells [.bool false, .slice none 0 0, .slice none 0 0, .bool false, .slice none 0 0, .slice none 0 0].toArray 56))) (p5.out.ext (Ext.alloc wv (.cells [.bool false, .slice none 0 0, .slice none 0 0, .bool false, .slice none 0 0, .slice none 0 0].toArray 56))) (Rt.new wv [.bool false, .slice none 0 0, .slice none 0 0, .bool false, .slice none 0 0, .slice none 0 0] 56) (Below.size XE) (r7.out.ext (Ext.alloc wv (.cells [.bool false, .slice none 0 0, .slice none 0 0, .bool false, .slice none 0 0, .slice none 0 0].toArray 56))) s7 (r8.out.ext (Ext.alloc wv (.cells [.bool false, .slice none 0 0, .slice none 0 0, .bool false, .slice none 0 0, .slice none 0 0].toArray 56))) s8 (Nat.ne_of_gt r7.out.lt) (Nat.ne_of_gt r8.out.lt) ne7_8) (by kernel_rfl) (by kernel_rfl) rfl rfl
    have L1_6_7_8 : ∀ (wv : World) (v1 : Value) (B6 B7 B8 : Nat), Hid (Ext w1 wv) → Hid (OwnD 148 w1.heap.size wv v1 a b) → Hid (Rt wv B6 6 56) → Hid (w1.heap.size ≤ B6) → Hid (Rt wv B7 6 56) → Hid (w1.heap.size ≤ B7) → Hid (Rt wv B8 3 28) → Hid (w1.heap.size ≤ B8) → Hid (B6 ≠ B7) → Hid (B6 ≠ B8) → Hid (B7 ≠ B8) → wpAnyH Try.prog .any O Q9 SS 5 #[true, true, true, false, true, false, true, true, true, false, false, false] ⟨#[.agg #[u0, u1, u2, u3, u4, u5], .agg #[q0, q1, q2, q3, q4, q5], .agg #[.bool s2, t1, t2], .pointer (some ⟨w.heap.size, 0, none⟩), .pointer (some ⟨w.heap.size + 1, 0, none⟩), .pointer (some ⟨w.heap.size + 1 + 1, 0, none⟩), .bool false, .pointer (some ⟨B6, 0, none⟩), .pointer (some ⟨B7, 0, none⟩), .pointer (some ⟨B8, 0, none⟩), undef, undef, .agg #[u0, u1, u2, u3, u4, u5], v1, .agg #[q0, q1, q2, q3, q4, q5], undef, .agg #[.bool s2, t1, t2], undef, undef, undef, undef, undef, undef, undef, undef, undef, undef, undef, undef, undef, undef, undef, undef, undef, undef, undef, undef, undef, undef, undef, undef, undef, undef, undef, undef, undef, undef, undef, undef, undef, undef, undef, undef, undef, undef, undef, undef, undef, undef, undef, undef, undef, undef, undef, undef, undef, undef, undef, undef, undef, undef, undef, undef, undef, undef, undef, undef, undef, undef, undef, undef, undef, undef, undef, undef, undef, undef, undef, undef, undef, undef, undef, undef, undef, undef, undef, undef], []⟩ wv := by
      intro wv v1 B6 B7 B8 hX p1 r6 s6 r7 s7 r8 s8 ne6_7 ne6_8 ne7_8
      have hO1 := hO.out
      have hQ1 := hQ.out
      subst hO1
      subst hQ1
      have XE := hX.out
      refine wpAnyH_ready (rs := [3]) (by kernel_rfl) (by simp) ?_
      refine AllReadyH.cons (o := _) rfl (fun K hK => ?_) AllReadyH.nil
      · skip
        go_simp
        go_at_call 31
        refine (HB.out _ _ (HV1.out.ext (Ext.trans b1 XE))).mono ?_
        rintro e wn ⟨vn, rfl, bn, on⟩
        go_wp2_with fail
        refine hK.out _ _ (KP.out _ (Ext.trans XE bn)) (fun _ => ?_)
        clear hK K
        try simp only [Act.put, List.getElem_toArray, List.getElem_cons_succ, List.getElem_cons_zero, List.setIfInBounds_toArray, List.set_cons_zero, List.set_cons_succ]
        exact wpAnyH_to (L2_6_7_8 wn v1 vn B6 B7 B8 (Ext.trans XE bn) (p1.out.ext bn) (on.mono (Below.size XE)) (r6.out.ext bn) s6 (r7.out.ext bn) s7 (r8.out.ext bn) s8 ne6_7 ne6_8 ne7_8) (by kernel_rfl) (by kernel_rfl) rfl rfl
    have L2_6_7 : ∀ (wv : World) (v1 v3 : Value) (B6 B7 : Nat), Hid (Ext w1 wv) → Hid (OwnD 148 w1.heap.size wv v1 a b) → Hid (OwnD 148 w1.heap.size wv v3 c d) → Hid (Rt wv B6 6 56) → Hid (w1.heap.size ≤ B6) → Hid (Rt wv B7 6 56) → Hid (w1.heap.size ≤ B7) → Hid (B6 ≠ B7) → wpAnyH Try.prog .any O Q9 SS 5 #[true, true, true, true, true, false, true, true, false, false, false, false] ⟨#[.agg #[u0, u1, u2, u3, u4, u5], .agg #[q0, q1, q2, q3, q4, q5], .agg #[.bool s2, t1, t2], .pointer (some ⟨w.heap.size, 0, none⟩), .pointer (some ⟨w.heap.size + 1, 0, none⟩), .pointer (some ⟨w.heap.size + 1 + 1, 0, none⟩), .bool false, .pointer (some ⟨B6, 0, none⟩), .pointer (some ⟨B7, 0, none⟩), undef, undef, undef, .agg #[u0, u1, u2, u3, u4, u5], v1, .agg #[q0, q1, q2, q3, q4, q5], v3, .agg #[.bool s2, t1, t2], undef, undef, undef, undef, undef, undef, undef, undef, undef, undef, undef, undef, undef, undef, undef, undef, undef, undef, undef, undef, undef, undef, undef, undef, undef, undef, undef, undef, undef, undef, undef, undef, undef, undef, undef, undef, undef, undef, undef, undef, undef, undef, undef, undef, undef, undef, undef, undef, undef, undef, undef, undef, undef, undef, undef, undef, undef, undef, undef, undef, undef, undef, undef, undef, undef, undef, undef, undef, undef, undef, undef, undef, undef, undef, undef, undef, undef, undef, undef, undef], []⟩ wv := by
      intro wv v1 v3 B6 B7 hX p1 p3 r6 s6 r7 s7 ne6_7
      have hO1 := hO.out
      have hQ1 := hQ.out
      subst hO1
      subst hQ1
      have XE := hX.out
      refine wpAnyH_ready (rs := [5, 8]) (by kernel_rfl) (by simp) ?_
      refine AllReadyH.cons (o := _) rfl (fun K hK => ?_) (AllReadyH.cons (o := _) rfl (fun K hK => ?_) AllReadyH.nil)
      · skip
        go_simp
        go_at_call 32
        refine (HN.out _ _ (HV2.out.ext (Ext.trans b1 XE))).mono ?_
        rintro e wn ⟨vn, rfl, bn, on⟩
        go_wp2_with fail
        refine hK.out _ _ (KP.out _ (Ext.trans XE bn)) (fun _ => ?_)
        clear hK K
        try simp only [Act.put, List.getElem_toArray, List.getElem_cons_succ, List.getElem_cons_zero, List.setIfInBounds_toArray, List.set_cons_zero, List.set_cons_succ]
        exact wpAnyH_to (L3_6_7 wn v1 v3 vn B6 B7 (Ext.trans XE bn) (p1.out.ext bn) (p3.out.ext bn) (on.mono (Below.size XE)) (r6.out.ext bn) s6 (r7.out.ext bn) s7 ne6_7) (by kernel_rfl) (by kernel_rfl) rfl rfl
      · skip
        go_simp
        refine hK.out _ _ (KP.out _ (Ext.trans XE (Ext.alloc wv (.cells [.bool false, .slice none 0 0, .slice none 0 0].toArray 28)))) (fun _ => ?_)
        clear hK K
        try simp only [Act.put, List.getElem_toArray, List.getElem_cons_succ, List.getElem_cons_zero, List.setIfInBounds_toArray, List.set_cons_zero, List.set_cons_succ]
        exact wpAnyH_to (L2_6_7_8 _ v1 v3 B6 B7 wv.heap.size (Ext.trans XE (Ext.alloc wv (.cells [.bool false, .slice none 0 0, .slice none 0 0].toArray 28))) (p1.out.ext (Ext.alloc wv (.cells [.bool false, .slice none 0 0, .slice none 0 0].toArray 28))) (p3.out.ext (Ext.alloc wv (.cells [.bool false, .slice none 0 0, .slice none 0 0].toArray 28))) (r6.out.ext (Ext.alloc wv (.cells [.bool false, .slice none 0 0, .slice none 0 0].toArray 28))) s6 (r7.out.ext (Ext.alloc wv (.cells [.bool false, .slice none 0 0, .slice none 0 0].toArray 28))) s7 (Rt.new wv [.bool false, .slice none 0 0, .slice none 0 0] 28) (Below.size XE) ne6_7 (Nat.ne_of_lt r6.out.lt) (Nat.ne_of_lt r7.out.lt)) (by kernel_rfl) (by kernel_rfl) rfl rfl
    have L2_6_8 : ∀ (wv : World) (v1 v3 : Value) (B6 B8 : Nat), Hid (Ext w1 wv) → Hid (OwnD 148 w1.heap.size wv v1 a b) → Hid (OwnD 148 w1.heap.size wv v3 c d) → Hid (Rt wv B6 6 56) → Hid (w1.heap.size ≤ B6) → Hid (Rt wv B8 3 28) → Hid (w1.heap.size ≤ B8) → Hid (B6 ≠ B8) → wpAnyH Try.prog .any O Q9 SS 5 #[true, true, true, true, true, false, true, false, true, false, false, false] ⟨#[.agg #[u0, u1, u2, u3, u4, u5], .agg #[q0, q1, q2, q3, q4, q5], .agg #[.bool s2, t1, t2], .pointer (some ⟨w.heap.size, 0, none⟩), .pointer (some ⟨w.heap.size + 1, 0, none⟩), .pointer (some ⟨w.heap.size + 1 + 1, 0, none⟩), .bool false, .pointer (some ⟨B6, 0, none⟩), undef, .pointer (some ⟨B8, 0, none⟩), undef, undef, .agg #[u0, u1, u2, u3, u4, u5], v1, .agg #[q0, q1, q2, q3, q4, q5], v3, .agg #[.bool s2, t1, t2], undef, undef, undef, undef, undef, undef, undef, undef, undef, undef, undef, undef, undef, undef, undef, undef, undef, undef, undef, undef, undef, undef, undef, undef, undef, undef, undef, undef, undef, undef, undef, undef, undef, undef, undef, undef, undef, undef, undef, undef, undef, undef, undef, undef, undef, undef, undef, undef, undef, undef, undef, undef, undef, undef, undef, undef, undef, undef, undef, undef, undef, undef, undef, undef, undef, undef, undef, undef, undef, undef, undef, undef, undef, undef, undef, undef, undef, undef, undef, undef], []⟩ wv := by
      intro wv v1 v3 B6 B8 hX p1 p3 r6 s6 r8 s8 ne6_8
      have hO1 := hO.out
      have hQ1 := hQ.out
      subst hO1
      subst hQ1
      have XE := hX.out
      refine wpAnyH_ready (rs := [5, 7]) (by kernel_rfl) (by simp) ?_
      refine AllReadyH.cons (o := _) rfl (fun K hK => ?_) (AllReadyH.cons (o := _) rfl (fun K hK => ?_) AllReadyH.nil)
      · skip
        go_simp
        go_at_call 32
        refine (HN.out _ _ (HV2.out.ext (Ext.trans b1 XE))).mono ?_
        rintro e wn ⟨vn, rfl, bn, on⟩
        go_wp2_with fail
        refine hK.out _ _ (KP.out _ (Ext.trans XE bn)) (fun _ => ?_)
        clear hK K
        try simp only [Act.put, List.getElem_toArray, List.getElem_cons_succ, List.getElem_cons_zero, List.setIfInBounds_toArray, List.set_cons_zero, List.set_cons_succ]
        exact wpAnyH_to (L3_6_8 wn v1 v3 vn B6 B8 (Ext.trans XE bn) (p1.out.ext bn) (p3.out.ext bn) (on.mono (Below.size XE)) (r6.out.ext bn) s6 (r8.out.ext bn) s8 ne6_8) (by kernel_rfl) (by kernel_rfl) rfl rfl
      · skip
        go_simp
        refine hK.out _ _ (KP.out _ (Ext.trans XE (Ext.alloc wv (.cells [.bool false, .slice none 0 0, .slice none 0 0, .bool false, .slice none 0 0, .slice none 0 0].toArray 56)))) (fun _ => ?_)
        clear hK K
        try simp only [Act.put, List.getElem_toArray, List.getElem_cons_succ, List.getElem_cons_zero, List.setIfInBounds_toArray, List.set_cons_zero, List.set_cons_succ]
        exact wpAnyH_to (L2_6_7_8 _ v1 v3 B6 wv.heap.size B8 (Ext.trans XE (Ext.alloc wv (.cells [.bool false, .slice none 0 0, .slice none 0 0, .bool false, .slice none 0 0, .slice none 0 0].toArray 56))) (p1.out.ext (Ext.alloc wv (.cells [.bool false, .slice none 0 0, .slice none 0 0, .bool false, .slice none 0 0, .slice none 0 0].toArray 56))) (p3.out.ext (Ext.alloc wv (.cells [.bool false, .slice none 0 0, .slice none 0 0, .bool false, .slice none 0 0, .slice none 0 0].toArray 56))) (r6.out.ext (Ext.alloc wv (.cells [.bool false, .slice none 0 0, .slice none 0 0, .bool false, .slice none 0 0, .slice none 0 0].toArray 56))) s6 (Rt.new wv [.bool false, .slice none 0 0, .slice none 0 0, .bool false, .slice none 0 0, .slice none 0 0] 56) (Below.size XE) (r8.out.ext (Ext.alloc wv (.cells [.bool false, .slice none 0 0, .slice none 0 0, .bool false, .slice none 0 0, .slice none 0 0].toArray 56))) s8 (Nat.ne_of_lt r6.out.lt) ne6_8 (Nat.ne_of_gt r8.out.lt)) (by kernel_rfl) (by kernel_rfl) rfl rfl
    have L2_7_8 : ∀ (wv : World) (v1 v3 : Value) (B7 B8 : Nat), Hid (Ext w1 wv) → Hid (OwnD 148 w1.heap.size wv v1 a b) → Hid (OwnD 148 w1.heap.size wv v3 c d) → Hid (Rt wv B7 6 56) → Hid (w1.heap.size ≤ B7) → Hid (Rt wv B8 3 28) → Hid (w1.heap.size ≤ B8) → Hid (B7 ≠ B8) → wpAnyH Try.prog .any O Q9 SS 5 #[true, true, true, true, true, false, false, true, true, false, false, false] ⟨#[.agg #[u0, u1, u2, u3, u4, u5], .agg #[q0, q1, q2, q3, q4, q5], .agg #[.bool s2, t1, t2], .pointer (some ⟨w.heap.size, 0, none⟩), .pointer (some ⟨w.heap.size + 1, 0, none⟩), .pointer (some ⟨w.heap.size + 1 + 1, 0, none⟩), .bool false, undef, .pointer (some ⟨B7, 0, none⟩), .pointer (some ⟨B8, 0, none⟩), undef, undef, .agg #[u0, u1, u2, u3, u4, u5], v1, .agg #[q0, q1, q2, q3, q4, q5], v3, .agg #[.bool s2, t1, t2], undef, undef, undef, undef, undef, undef, undef, undef, undef, undef, undef, undef, undef, undef, undef, undef, undef, undef, undef, undef, undef, undef, undef, undef, undef, undef, undef, undef, undef, undef, undef, undef, undef, undef, undef, undef, undef, undef, undef, undef, undef, undef, undef, undef, undef, undef, undef, undef, undef, undef, undef, undef, undef, undef, undef, undef, undef, undef, undef, undef, undef, undef, undef, undef, undef, undef, undef, undef, undef, undef, undef, undef, undef, undef, undef, undef, undef, undef, undef, undef], []⟩ wv := by
      intro wv v1 v3 B7 B8 hX p1 p3 r7 s7 r8 s8 ne7_8
      have hO1 := hO.out
      have hQ1 := hQ.out
      subst hO1
      subst hQ1
      have XE := hX.out
      refine wpAnyH_ready (rs := [5, 6]) (by kernel_rfl) (by simp) ?_
      refine AllReadyH.cons (o := _) rfl (fun K hK => ?_) (AllReadyH.cons (o := _) rfl (fun K hK => ?_) AllReadyH.nil)
      · skip
        go_simp
        go_at_call 32
        refine (HN.out _ _ (HV2.out.ext (Ext.trans b1 XE))).mono ?_
        rintro e wn ⟨vn, rfl, bn, on⟩
        go_wp2_with fail
        refine hK.out _ _ (KP.out _ (Ext.trans XE bn)) (fun _ => ?_)
        clear hK K
        try simp only [Act.put, List.getElem_toArray, List.getElem_cons_succ, List.getElem_cons_zero, List.setIfInBounds_toArray, List.set_cons_zero, List.set_cons_succ]
        exact wpAnyH_to (L3_7_8 wn v1 v3 vn B7 B8 (Ext.trans XE bn) (p1.out.ext bn) (p3.out.ext bn) (on.mono (Below.size XE)) (r7.out.ext bn) s7 (r8.out.ext bn) s8 ne7_8) (by kernel_rfl) (by kernel_rfl) rfl rfl
      · skip
        go_simp
        refine hK.out _ _ (KP.out _ (Ext.trans XE (Ext.alloc wv (.cells [.bool false, .slice none 0 0, .slice none 0 0, .bool false, .slice none 0 0, .slice none 0 0].toArray 56)))) (fun _ => ?_)
        clear hK K
        try simp only [Act.put, List.getElem_toArray, List.getElem_cons_succ, List.getElem_cons_zero, List.setIfInBounds_toArray, List.set_cons_zero, List.set_cons_succ]
        exact wpAnyH_to (L2_6_7_8 _ v1 v3 wv.heap.size B7 B8 (Ext.trans XE (Ext.alloc wv (.cells [.bool false, .slice none 0 0, .slice none 0 0, .bool false, .slice none 0 0, .slice none 0 0].toArray 56))) (p1.out.ext (Ext.alloc wv (.cells [.bool false, .slice none 0 0, .slice none 0 0, .bool false, .slice none 0 0, .slice none 0 0].toArray 56))) (p3.out.ext (Ext.alloc wv (.cells [.bool false, .slice none 0 0, .slice none 0 0, .bool false, .slice none 0 0, .slice none 0 0].toArray 56))) (Rt.new wv [.bool false, .slice none 0 0, .slice none 0 0, .bool false, .slice none 0 0, .slice none 0 0] 56) (Below.size XE) (r7.out.ext (Ext.alloc wv (.cells [.bool false, .slice none 0 0, .slice none 0 0, .bool false, .slice none 0 0, .slice none 0 0].toArray 56))) s7 (r8.out.ext (Ext.alloc wv (.cells [.bool false, .slice none 0 0, .slice none 0 0, .bool false, .slice none 0 0, .slice none 0 0].toArray 56))) s8 (Nat.ne_of_gt r7.out.lt) (Nat.ne_of_gt r8.out.lt) ne7_8) (by kernel_rfl) (by kernel_rfl) rfl rfl
    have L3_6 : ∀ (wv : World) (v1 v3 v5 : Value) (B6 : Nat), Hid (Ext w1 wv) → Hid (OwnD 148 w1.heap.size wv v1 a b) → Hid (OwnD 148 w1.heap.size wv v3 c d) → Hid (OwnQ 148 w1.heap.size wv v5 r) → Hid (Rt wv B6 6 56) → Hid (w1.heap.size ≤ B6) → wpAnyH Try.prog .any O Q9 SS 5 #[true, true, true, true, true, true, true, false, false, false, false, false] ⟨#[.agg #[u0, u1, u2, u3, u4, u5], .agg #[q0, q1, q2, q3, q4, q5], .agg #[.bool s2, t1, t2], .pointer (some ⟨w.heap.size, 0, none⟩), .pointer (some ⟨w.heap.size + 1, 0, none⟩), .pointer (some ⟨w.heap.size + 1 + 1, 0, none⟩), .bool false, .pointer (some ⟨B6, 0, none⟩), undef, undef, undef, undef, .agg #[u0, u1, u2, u3, u4, u5], v1, .agg #[q0, q1, q2, q3, q4, q5], v3, .agg #[.bool s2, t1, t2], v5, undef, undef, undef, undef, undef, undef, undef, undef, undef, undef, undef, undef, undef, undef, undef, undef, undef, undef, undef, undef, undef, undef, undef, undef, undef, undef, undef, undef, undef, undef, undef, undef, undef, undef, undef, undef, undef, undef, undef, undef, undef, undef, undef, undef, undef, undef, undef, undef, undef, undef, undef, undef, undef, undef, undef, undef, undef, undef, undef, undef, undef, undef, undef, undef, undef, undef, undef, undef, undef, undef, undef, undef, undef, undef, undef, undef, undef, undef, undef], []⟩ wv := by
      intro wv v1 v3 v5 B6 hX p1 p3 p5 r6 s6
      have hO1 := hO.out
      have hQ1 := hQ.out
      subst hO1
      subst hQ1
      have XE := hX.out
      refine wpAnyH_ready (rs := [7, 8]) (by kernel_rfl) (by simp) ?_
      refine AllReadyH.cons (o := _) rfl (fun K hK => ?_) (AllReadyH.cons (o := _) rfl (fun K hK => ?_) AllReadyH.nil)
      · skip
        go_simp
        refine hK.out _ _ (KP.out _ (Ext.trans XE (Ext.alloc wv (.cells [.bool false, .slice none 0 0, .slice none 0 0, .bool false, .slice none 0 0, .slice none 0 0].toArray 56)))) (fun _ => ?_)
        clear hK K
        try simp only [Act.put, List.getElem_toArray, List.getElem_cons_succ, List.getElem_cons_zero, List.setIfInBounds_toArray, List.set_cons_zero, List.set_cons_succ]
        exact wpAnyH_to (L3_6_7 _ v1 v3 v5 B6 wv.heap.size (Ext.trans XE (Ext.alloc wv (.cells [.bool false, .slice none 0 0, .slice none 0 0, .bool false, .slice none 0 0, .slice none 0 0].toArray 56))) (p1.out.ext (Ext.alloc wv (.cells [.bool false, .slice none 0 0, .slice none 0 0, .bool false, .slice none 0 0, .slice none 0 0].toArray 56))) (p3.out.ext (Ext.alloc wv (.cells [.bool false, .slice none 0 0, .slice none 0 0, .bool false, .slice none 0 0, .slice none 0 0].toArray 56))) (p5.out.ext (Ext.alloc wv (.cells [.bool false, .slice none 0 0, .slice none 0 0, .bool false, .slice none 0 0, .slice none 0 0].toArray 56))) (r6.out.ext (Ext.alloc wv (.cells [.bool false, .slice none 0 0, .slice none 0 0, .bool false, .slice none 0 0, .slice none 0 0].toArray 56))) s6 (Rt.new wv [.bool false, .slice none 0 0, .slice none 0 0, .bool false, .slice none 0 0, .slice none 0 0] 56) (Below.size XE) (Nat.ne_of_lt r6.out.lt)) (by kernel_rfl) (by kernel_rfl) rfl rfl
      · skip
        go_simp
        refine hK.out _ _ (KP.out _ (Ext.trans XE (Ext.alloc wv (.cells [.bool false, .slice none 0 0, .slice none 0 0].toArray 28)))) (fun _ => ?_)
        clear hK K
        try simp only [Act.put, List.getElem_toArray, List.getElem_cons_succ, List.getElem_cons_zero, List.setIfInBounds_toArray, List.set_cons_zero, List.set_cons_succ]
        exact wpAnyH_to (L3_6_8 _ v1 v3 v5 B6 wv.heap.size (Ext.trans XE (Ext.alloc wv (.cells [.bool false, .slice none 0 0, .slice none 0 0].toArray 28))) (p1.out.ext (Ext.alloc wv (.cells [.bool false, .slice none 0 0, .slice none 0 0].toArray 28))) (p3.out.ext (Ext.alloc wv (.cells [.bool false, .slice none 0 0, .slice none 0 0].toArray 28))) (p5.out.ext (Ext.alloc wv (.cells [.bool false, .slice none 0 0, .slice none 0 0].toArray 28))) (r6.out.ext (Ext.alloc wv (.cells [.bool false, .slice none 0 0, .slice none 0 0].toArray 28))) s6 (Rt.new wv [.bool false, .slice none 0 0, .slice none 0 0] 28) (Below.size XE) (Nat.ne_of_lt r6.out.lt)) (by kernel_rfl) (by kernel_rfl) rfl rfl
    have L3_7 : ∀ (wv : World) (v1 v3 v5 : Value) (B7 : Nat), Hid (Ext w1 wv) → Hid (OwnD 148 w1.heap.size wv v1 a b) → Hid (OwnD 148 w1.heap.size wv v3 c d) → Hid (OwnQ 148 w1.heap.size wv v5 r) → Hid (Rt wv B7 6 56) → Hid (w1.heap.size ≤ B7) → wpAnyH Try.prog .any O Q9 SS 5 #[true, true, true, true, true, true, false, true, false, false, false, false] ⟨#[.agg #[u0, u1, u2, u3, u4, u5], .agg #[q0, q1, q2, q3, q4, q5], .agg #[.bool s2, t1, t2], .pointer (some ⟨w.heap.size, 0, none⟩), .pointer (some ⟨w.heap.size + 1, 0, none⟩), .pointer (some ⟨w.heap.size + 1 + 1, 0, none⟩), .bool false, undef, .pointer (some ⟨B7, 0, none⟩), undef, undef, undef, .agg #[u0, u1, u2, u3, u4, u5], v1, .agg #[q0, q1, q2, q3, q4, q5], v3, .agg #[.bool s2, t1, t2], v5, undef, undef, undef, undef, undef, undef, undef, undef, undef, undef, undef, undef, undef, undef, undef, undef, undef, undef, undef, undef, undef, undef, undef, undef, undef, undef, undef, undef, undef, undef, undef, undef, undef, undef, undef, undef, undef, undef, undef, undef, undef, undef, undef, undef, undef, undef, undef, undef, undef, undef, undef, undef, undef, undef, undef, undef, undef, undef, undef, undef, undef, undef, undef, undef, undef, undef, undef, undef, undef, undef, undef, undef, undef, undef, undef, undef, undef, undef, undef], []⟩ wv := by
      intro wv v1 v3 v5 B7 hX p1 p3 p5 r7 s7
      have hO1 := hO.out
      have hQ1 := hQ.out
      subst hO1
      subst hQ1
      have XE := hX.out
      refine wpAnyH_ready (rs := [6, 8]) (by kernel_rfl) (by simp) ?_
      refine AllReadyH.cons (o := _) rfl (fun K hK => ?_) (AllReadyH.cons (o := _) rfl (fun K hK => ?_) AllReadyH.nil)
      · skip
        go_simp
        refine hK.out _ _ (KP.out _ (Ext.trans XE (Ext.alloc wv (.cells [.bool false, .slice none 0 0, .slice none 0 0, .bool false, .slice none 0 0, .slice none 0 0].toArray 56)))) (fun _ => ?_)
        clear hK K
        try simp only [Act.put, List.getElem_toArray, List.getElem_cons_succ, List.getElem_cons_zero, List.setIfInBounds_toArray, List.set_cons_zero, List.set_cons_succ]
        exact wpAnyH_to (L3_6_7 _ v1 v3 v5 wv.heap.size B7 (Ext.trans XE (Ext.alloc wv (.cells [.bool false, .slice none 0 0, .slice none 0 0, .bool false, .slice none 0 0, .slice none 0 0].toArray 56))) (p1.out.ext (Ext.alloc wv (.cells [.bool false, .slice none 0 0, .slice none 0 0, .bool false, .slice none 0 0, .slice none 0 0].toArray 56))) (p3.out.ext (Ext.alloc wv (.cells [.bool false, .slice none 0 0, .slice none 0 0, .bool false, .slice none 0 0, .slice none 0 0].toArray 56))) (p5.out.ext (Ext.alloc wv (.cells [.bool false, .slice none 0 0, .slice none 0 0, .bool false, .slice none 0 0, .slice none 0 0].toArray 56))) (Rt.new wv [.bool false, .slice none 0 0, .slice none 0 0, .bool false, .slice none 0 0, .slice none 0 0] 56) (Below.size XE) (r7.out.ext (Ext.alloc wv (.cells [.bool false, .slice none 0 0, .slice none 0 0, .bool false, .slice none 0 0, .slice none 0 0].toArray 56))) s7 (Nat.ne_of_gt r7.out.lt)) (by kernel_rfl) (by kernel_rfl) rfl rfl
      · skip
        go_simp
        refine hK.out _ _ (KP.out _ (Ext.trans XE (Ext.alloc wv (.cells [.bool false, .slice none 0 0, .slice none 0 0].toArray 28)))) (fun _ => ?_)
        clear hK K
        try simp only [Act.put, List.getElem_toArray, List.getElem_cons_succ, List.getElem_cons_zero, List.setIfInBounds_toArray, List.set_cons_zero, List.set_cons_succ]
        exact wpAnyH_to (L3_7_8 _ v1 v3 v5 B7 wv.heap.size (Ext.trans XE (Ext.alloc wv (.cells [.bool false, .slice none 0 0, .slice none 0 0].toArray 28))) (p1.out.ext (Ext.alloc wv (.cells [.bool false, .slice none 0 0, .slice none 0 0].toArray 28))) (p3.out.ext (Ext.alloc wv (.cells [.bool false, .slice none 0 0, .slice none 0 0].toArray 28))) (p5.out.ext (Ext.alloc wv (.cells [.bool false, .slice none 0 0, .slice none 0 0].toArray 28))) (r7.out.ext (Ext.alloc wv (.cells [.bool false, .slice none 0 0, .slice none 0 0].toArray 28))) s7 (Rt.new wv [.bool false, .slice none 0 0, .slice none 0 0] 28) (Below.size XE) (Nat.ne_of_lt r7.out.lt)) (by kernel_rfl) (by kernel_rfl) rfl rfl
    have L3_8 : ∀ (wv : World) (v1 v3 v5 : Value) (B8 : Nat), Hid (Ext w1 wv) → Hid (OwnD 148 w1.heap.size wv v1 a b) → Hid (OwnD 148 w1.heap.size wv v3 c d) → Hid (OwnQ 148 w1.heap.size wv v5 r) → Hid (Rt wv B8 3 28) → Hid (w1.heap.size ≤ B8) → wpAnyH Try.prog .any O Q9 SS 5 #[true, true, true, true, true, true, false, false, true, false, false, false] ⟨#[.agg #[u0, u1, u2, u3, u4, u5], .agg #[q0, q1, q2, q3, q4, q5], .agg #[.bool s2, t1, t2], .pointer (some ⟨w.heap.size, 0, none⟩), .pointer (some ⟨w.heap.size + 1, 0, none⟩), .pointer (some ⟨w.heap.size + 1 + 1, 0, none⟩), .bool false, undef, undef, .pointer (some ⟨B8, 0, none⟩), undef, undef, .agg #[u0, u1, u2, u3, u4, u5], v1, .agg #[q0, q1, q2, q3, q4, q5], v3, .agg #[.bool s2, t1, t2], v5, undef, undef, undef, undef, undef, undef, undef, undef, undef, undef, undef, undef, undef, undef, undef, undef, undef, undef, undef, undef, undef, undef, undef, undef, undef, undef, undef, undef, undef, undef, undef, undef, undef, undef, undef, undef, undef, undef, undef, undef, undef, undef, undef, undef, undef, undef, undef, undef, undef, undef, undef, undef, undef, undef, undef, undef, undef, undef, undef, undef, undef, undef, undef, undef, undef, undef, undef, undef, undef, undef, undef, undef, undef, undef, undef, undef, undef, undef, undef], []⟩ wv := by
      intro wv v1 v3 v5 B8 hX p1 p3 p5 r8 s8
      have hO1 := hO.out
      have hQ1 := hQ.out
      subst hO1
      subst hQ1
      have XE := hX.out
      refine wpAnyH_ready (rs := [6, 7]) (by kernel_rfl) (by simp) ?_
      refine AllReadyH.cons (o := _) rfl (fun K hK => ?_) (AllReadyH.cons (o := _) rfl (fun K hK => ?_) AllReadyH.nil)
      · skip
        go_simp
        refine hK.out _ _ (KP.out _ (Ext.trans XE (Ext.alloc wv (.cells [.bool false, .slice none 0 0, .slice none 0 0, .bool false, .slice none 0 0, .slice none 0 0].toArray 56)))) (fun _ => ?_)
        clear hK K
        try simp only [Act.put, List.getElem_toArray, List.getElem_cons_succ, List.getElem_cons_zero, List.setIfInBounds_toArray, List.set_cons_zero, List.set_cons_succ]
        exact wpAnyH_to (L3_6_8 _ v1 v3 v5 wv.heap.size B8 (Ext.trans XE (Ext.alloc wv (.cells [.bool false, .slice none 0 0, .slice none 0 0, .bool false, .slice none 0 0, .slice none 0 0].toArray 56))) (p1.out.ext (Ext.alloc wv (.cells [.bool false, .slice none 0 0, .slice none 0 0, .bool false, .slice none 0 0, .slice none 0 0].toArray 56))) (p3.out.ext (Ext.alloc wv (.cells [.bool false, .slice none 0 0, .slice none 0 0, .bool false, .slice none 0 0, .slice none 0 0].toArray 56))) (p5.out.ext (Ext.alloc wv (.cells [.bool false, .slice none 0 0, .slice none 0 0, .bool false, .slice none 0 0, .slice none 0 0].toArray 56))) (Rt.new wv [.bool false, .slice none 0 0, .slice none 0 0, .bool false, .slice none 0 0, .slice none 0 0] 56) (Below.size XE) (r8.out.ext (Ext.alloc wv (.cells [.bool false, .slice none 0 0, .slice none 0 0, .bool false, .slice none 0 0, .slice none 0 0].toArray 56))) s8 (Nat.ne_of_gt r8.out.lt)) (by kernel_rfl) (by kernel_rfl) rfl rfl
      · skip
        go_simp
        refine hK.out _ _ (KP.out _ (Ext.trans XE (Ext.alloc wv (.cells [.bool false, .slice none 0 0, .slice none 0 0, .bool false, .slice none 0 0, .slice none 0 0].toArray 56)))) (fun _ => ?_)
        clear hK K
        try simp only [Act.put, List.getElem_toArray, List.getElem_cons_succ, List.getElem_cons_zero, List.setIfInBounds_toArray, List.set_cons_zero, List.set_cons_succ]
        exact wpAnyH_to (L3_7_8 _ v1 v3 v5 wv.heap.size B8 (Ext.trans XE (Ext.alloc wv (.cells [.bool false, .slice none 0 0, .slice none 0 0, .bool false, .slice none 0 0, .slice none 0 0].toArray 56))) (p1.out.ext (Ext.alloc wv (.cells [.bool false, .slice none 0 0, .slice none 0 0, .bool false, .slice none 0 0, .slice none 0 0].toArray 56))) (p3.out.ext (Ext.alloc wv (.cells [.bool false, .slice none 0 0, .slice none 0 0, .bool false, .slice none 0 0, .slice none 0 0].toArray 56))) (p5.out.ext (Ext.alloc wv (.cells [.bool false, .slice none 0 0, .slice none 0 0, .bool false, .slice none 0 0, .slice none 0 0].toArray 56))) (Rt.new wv [.bool false, .slice none 0 0, .slice none 0 0, .bool false, .slice none 0 0, .slice none 0 0] 56) (Below.size XE) (r8.out.ext (Ext.alloc wv (.cells [.bool false, .slice none 0 0, .slice none 0 0, .bool false, .slice none 0 0, .slice none 0 0].toArray 56))) s8 (Nat.ne_of_gt r8.out.lt)) (by kernel_rfl) (by kernel_rfl) rfl rfl
    have L0_6_7_8 : ∀ (wv : World) (B6 B7 B8 : Nat), Hid (Ext w1 wv) → Hid (Rt wv B6 6 56) → Hid (w1.heap.size ≤ B6) → Hid (Rt wv B7 6 56) → Hid (w1.heap.size ≤ B7) → Hid (Rt wv B8 3 28) → Hid (w1.heap.size ≤ B8) → Hid (B6 ≠ B7) → Hid (B6 ≠ B8) → Hid (B7 ≠ B8) → wpAnyH Try.prog .any O Q9 SS 6 #[true, false, true, false, true, false, true, true, true, false, false, false] ⟨#[.agg #[u0, u1, u2, u3, u4, u5], .agg #[q0, q1, q2, q3, q4, q5], .agg #[.bool s2, t1, t2], .pointer (some ⟨w.heap.size, 0, none⟩), .pointer (some ⟨w.heap.size + 1, 0, none⟩), .pointer (some ⟨w.heap.size + 1 + 1, 0, none⟩), .bool false, .pointer (some ⟨B6, 0, none⟩), .pointer (some ⟨B7, 0, none⟩), .pointer (some ⟨B8, 0, none⟩), undef, undef, .agg #[u0, u1, u2, u3, u4, u5], undef, .agg #[q0, q1, q2, q3, q4, q5], undef, .agg #[.bool s2, t1, t2], undef, undef, undef, undef, undef, undef, undef, undef, undef, undef, undef, undef, undef, undef, undef, undef, undef, undef, undef, undef, undef, undef, undef, undef, undef, undef, undef, undef, undef, undef, undef, undef, undef, undef, undef, undef, undef, undef, undef, undef, undef, undef, undef, undef, undef, undef, undef, undef, undef, undef, undef, undef, undef, undef, undef, undef, undef, undef, undef, undef, undef, undef, undef, undef, undef, undef, undef, undef, undef, undef, undef, undef, undef, undef, undef, undef, undef, undef, undef, undef], []⟩ wv := by
      intro wv B6 B7 B8 hX r6 s6 r7 s7 r8 s8 ne6_7 ne6_8 ne7_8
      have hO1 := hO.out
      have hQ1 := hQ.out
      subst hO1
      subst hQ1
      have XE := hX.out
      refine wpAnyH_ready (rs := [1]) (by kernel_rfl) (by simp) ?_
      refine AllReadyH.cons (o := _) rfl (fun K hK => ?_) AllReadyH.nil
      · skip
        go_simp
        go_at_call 31
        refine (HA.out _ _ (HV0.out.ext (Ext.trans b1 XE))).mono ?_
        rintro e wn ⟨vn, rfl, bn, on⟩
        go_wp2_with fail
        refine hK.out _ _ (KP.out _ (Ext.trans XE bn)) (fun _ => ?_)
        clear hK K
        try simp only [Act.put, List.getElem_toArray, List.getElem_cons_succ, List.getElem_cons_zero, List.setIfInBounds_toArray, List.set_cons_zero, List.set_cons_succ]
        exact wpAnyH_to (L1_6_7_8 wn vn B6 B7 B8 (Ext.trans XE bn) (on.mono (Below.size XE)) (r6.out.ext bn) s6 (r7.out.ext bn) s7 (r8.out.ext bn) s8 ne6_7 ne6_8 ne7_8) (by kernel_rfl) (by kernel_rfl) rfl rfl
    have L1_6_7 : ∀ (wv : World) (v1 : Value) (B6 B7 : Nat), Hid (Ext w1 wv) → Hid (OwnD 148 w1.heap.size wv v1 a b) → Hid (Rt wv B6 6 56) → Hid (w1.heap.size ≤ B6) → Hid (Rt wv B7 6 56) → Hid (w1.heap.size ≤ B7) → Hid (B6 ≠ B7) → wpAnyH Try.prog .any O Q9 SS 6 #[true, true, true, false, true, false, true, true, false, false, false, false] ⟨#[.agg #[u0, u1, u2, u3, u4, u5], .agg #[q0, q1, q2, q3, q4, q5], .agg #[.bool s2, t1, t2], .pointer (some ⟨w.heap.size, 0, none⟩), .pointer (some ⟨w.heap.size + 1, 0, none⟩), .pointer (some ⟨w.heap.size + 1 + 1, 0, none⟩), .bool false, .pointer (some ⟨B6, 0, none⟩), .pointer (some ⟨B7, 0, none⟩), undef, undef, undef, .agg #[u0, u1, u2, u3, u4, u5], v1, .agg #[q0, q1, q2, q3, q4, q5], undef, .agg #[.bool s2, t1, t2], undef, undef, undef, undef, undef, undef, undef, undef, undef, undef, undef, undef, undef, undef, undef, undef, undef, undef, undef, undef, undef, undef, undef, undef, undef, undef, undef, undef, undef, undef, undef, undef, undef, undef, undef, undef, undef, undef, undef, undef, undef, undef, undef, undef, undef, undef, undef, undef, undef, undef, undef, undef, undef, undef, undef, undef, undef, undef, undef, undef, undef, undef, undef, undef, undef, undef, undef, undef, undef, undef, undef, undef, undef, undef, undef, undef, undef, undef, undef, undef], []⟩ wv := by
      intro wv v1 B6 B7 hX p1 r6 s6 r7 s7 ne6_7
      have hO1 := hO.out
      have hQ1 := hQ.out
      subst hO1
      subst hQ1
      have XE := hX.out
      refine wpAnyH_ready (rs := [3, 8]) (by kernel_rfl) (by simp) ?_
      refine AllReadyH.cons (o := _) rfl (fun K hK => ?_) (AllReadyH.cons (o := _) rfl (fun K hK => ?_) AllReadyH.nil)
      · skip
        go_simp
        go_at_call 31
        refine (HB.out _ _ (HV1.out.ext (Ext.trans b1 XE))).mono ?_
        rintro e wn ⟨vn, rfl, bn, on⟩
        go_wp2_with fail
        refine hK.out _ _ (KP.out _ (Ext.trans XE bn)) (fun _ => ?_)
        clear hK K
        try simp only [Act.put, List.getElem_toArray, List.getElem_cons_succ, List.getElem_cons_zero, List.setIfInBounds_toArray, List.set_cons_zero, List.set_cons_succ]
        exact wpAnyH_to (L2_6_7 wn v1 vn B6 B7 (Ext.trans XE bn) (p1.out.ext bn) (on.mono (Below.size XE)) (r6.out.ext bn) s6 (r7.out.ext bn) s7 ne6_7) (by kernel_rfl) (by kernel_rfl) rfl rfl
      · skip
        go_simp
        refine hK.out _ _ (KP.out _ (Ext.trans XE (Ext.alloc wv (.cells [.bool false, .slice none 0 0, .slice none 0 0].toArray 28)))) (fun _ => ?_)
        clear hK K
        try simp only [Act.put, List.getElem_toArray, List.getElem_cons_succ, List.getElem_cons_zero, List.setIfInBounds_toArray, List.set_cons_zero, List.set_cons_succ]
        exact wpAnyH_to (L1_6_7_8 _ v1 B6 B7 wv.heap.size (Ext.trans XE (Ext.alloc wv (.cells [.bool false, .slice none 0 0, .slice none 0 0].toArray 28))) (p1.out.ext (Ext.alloc wv (.cells [.bool false, .slice none 0 0, .slice none 0 0].toArray 28))) (r6.out.ext (Ext.alloc wv (.cells [.bool false, .slice none 0 0, .slice none 0 0].toArray 28))) s6 (r7.out.ext (Ext.alloc wv (.cells [.bool false, .slice none 0 0, .slice none 0 0].toArray 28))) s7 (Rt.new wv [.bool false, .slice none 0 0, .slice none 0 0] 28) (Below.size XE) ne6_7 (Nat.ne_of_lt r6.out.lt) (Nat.ne_of_lt r7.out.lt)) (by kernel_rfl) (by kernel_rfl) rfl rfl
    have L1_6_8 : ∀ (wv : World) (v1 : Value) (B6 B8 : Nat), Hid (Ext w1 wv) → Hid (OwnD 148 w1.heap.size wv v1 a b) → Hid (Rt wv B6 6 56) → Hid (w1.heap.size ≤ B6) → Hid (Rt wv B8 3 28) → Hid (w1.heap.size ≤ B8) → Hid (B6 ≠ B8) → wpAnyH Try.prog .any O Q9 SS 6 #[true, true, true, false, true, false, true, false, true, false, false, false] ⟨#[.agg #[u0, u1, u2, u3, u4, u5], .agg #[q0, q1, q2, q3, q4, q5], .agg #[.bool s2, t1, t2], .pointer (some ⟨w.heap.size, 0, none⟩), .pointer (some ⟨w.heap.size + 1, 0, none⟩), .pointer (some ⟨w.heap.size + 1 + 1, 0, none⟩), .bool false, .pointer (some ⟨B6, 0, none⟩), undef, .pointer (some ⟨B8, 0, none⟩), undef, undef, .agg #[u0, u1, u2, u3, u4, u5], v1, .agg #[q0, q1, q2, q3, q4, q5], undef, .agg #[.bool s2, t1, t2], undef, undef, undef, undef, undef, undef, undef, undef, undef, undef, undef, undef, undef, undef, undef, undef, undef, undef, undef, undef, undef, undef, undef, undef, undef, undef, undef, undef, undef, undef, undef, undef, undef, undef, undef, undef, undef, undef, undef, undef, undef, undef, undef, undef, undef, undef, undef, undef, undef, undef, undef, undef, undef, undef, undef, undef, undef, undef, undef, undef, undef, undef, undef, undef, undef, undef, undef, undef, undef, undef, undef, undef, undef, undef, undef, undef, undef, undef, undef, undef], []⟩ wv := by
      intro wv v1 B6 B8 hX p1 r6 s6 r8 s8 ne6_8
      have hO1 := hO.out
      have hQ1 := hQ.out
      subst hO1
      subst hQ1
      have XE := hX.out
      refine wpAnyH_ready (rs := [3, 7]) (by kernel_rfl) (by simp) ?_
      refine AllReadyH.cons (o := _) rfl (fun K hK => ?_) (AllReadyH.cons (o := _) rfl (fun K hK => ?_) AllReadyH.nil)
      · skip
        go_simp
        go_at_call 31
        refine (HB.out _ _ (HV1.out.ext (Ext.trans b1 XE))).mono ?_
        rintro e wn ⟨vn, rfl, bn, on⟩
        go_wp2_with fail
        refine hK.out _ _ (KP.out _ (Ext.trans XE bn)) (fun _ => ?_)
        clear hK K
        try simp only [Act.put, List.getElem_toArray, List.getElem_cons_succ, List.getElem_cons_zero, List.setIfInBounds_toArray, List.set_cons_zero, List.set_cons_succ]
        exact wpAnyH_to (L2_6_8 wn v1 vn B6 B8 (Ext.trans XE bn) (p1.out.ext bn) (on.mono (Below.size XE)) (r6.out.ext bn) s6 (r8.out.ext bn) s8 ne6_8) (by kernel_rfl) (by kernel_rfl) rfl rfl
      · skip
        go_simp
        refine hK.out _ _ (KP.out _ (Ext.trans XE (Ext.alloc wv (.cells [.bool false, .slice none 0 0, .slice none 0 0, .bool false, .slice none 0 0, .slice none 0 0].toArray 56)))) (fun _ => ?_)
        clear hK K
        try simp only [Act.put, List.getElem_toArray, List.getElem_cons_succ, List.getElem_cons_zero, List.setIfInBounds_toArray, List.set_cons_zero, List.set_cons_succ]
        exact wpAnyH_to (L1_6_7_8 _ v1 B6 wv.heap.size B8 (Ext.trans XE (Ext.alloc wv (.cells [.bool false, .slice none 0 0, .slice none 0 0, .bool false, .slice none 0 0, .slice none 0 0].toArray 56))) (p1.out.ext (Ext.alloc wv (.cells [.bool false, .slice none 0 0, .slice none 0 0, .bool false, .slice none 0 0, .slice none 0 0].toArray 56))) (r6.out.ext (Ext.alloc wv (.cells [.bool false, .slice none 0 0, .slice none 0 0, .bool false, .slice none 0 0, .slice none 0 0].toArray 56))) s6 (Rt.new wv [.bool false, .slice none 0 0, .slice none 0 0, .bool false, .slice none 0 0, .slice none 0 0] 56) (Below.size XE) (r8.out.ext (Ext.alloc wv (.cells [.bool false, .slice none 0 0, .slice none 0 0, .bool false, .slice none 0 0, .slice none 0 0].toArray 56))) s8 (Nat.ne_of_lt r6.out.lt) ne6_8 (Nat.ne_of_gt r8.out.lt)) (by kernel_rfl) (by kernel_rfl) rfl rfl
    have L1_7_8 : ∀ (wv : World) (v1 : Value) (B7 B8 : Nat), Hid (Ext w1 wv) → Hid (OwnD 148 w1.heap.size wv v1 a b) → Hid (Rt wv B7 6 56) → Hid (w1.heap.size ≤ B7) → Hid (Rt wv B8 3 28) → Hid (w1.heap.size ≤ B8) → Hid (B7 ≠ B8) → wpAnyH Try.prog .any O Q9 SS 6 #[true, true, true, false, true, false, false, true, true, false, false, false] ⟨#[.agg #[u0, u1, u2, u3, u4, u5], .agg #[q0, q1, q2, q3, q4, q5], .agg #[.bool s2, t1, t2], .pointer (some ⟨w.heap.size, 0, none⟩), .pointer (some ⟨w.heap.size + 1, 0, none⟩), .pointer (some ⟨w.heap.size + 1 + 1, 0, none⟩), .bool false, undef, .pointer (some ⟨B7, 0, none⟩), .pointer (some ⟨B8, 0, none⟩), undef, undef, .agg #[u0, u1, u2, u3, u4, u5], v1, .agg #[q0, q1, q2, q3, q4, q5], undef, .agg #[.bool s2, t1, t2], undef, undef, undef, undef, undef, undef, undef, undef, undef, undef, undef, undef, undef, undef, undef, undef, undef, undef, undef, undef, undef, undef, undef, undef, undef, undef, undef, undef, undef, undef, undef, undef, undef, undef, undef, undef, undef, undef, undef, undef, undef, undef, undef, undef, undef, undef, undef, undef, undef, undef, undef, undef, undef, undef, undef, undef, undef, undef, undef, undef, undef, undef, undef, undef, undef, undef, undef, undef, undef, undef, undef, undef, undef, undef, undef, undef, undef, undef, undef, undef], []⟩ wv := by
      intro wv v1 B7 B8 hX p1 r7 s7 r8 s8 ne7_8
      have hO1 := hO.out
      have hQ1 := hQ.out
      subst hO1
      subst hQ1
      have XE := hX.out
      refine wpAnyH_ready (rs := [3, 6]) (by kernel_rfl) (by simp) ?_
      refine AllReadyH.cons (o := _) rfl (fun K hK => ?_) (AllReadyH.cons (o := _) rfl (fun K hK => ?_) AllReadyH.nil)
      · skip
        go_simp
        go_at_call 31
        refine (HB.out _ _ (HV1.out.ext (Ext.trans b1 XE))).mono ?_
        rintro e wn ⟨vn, rfl, bn, on⟩
        go_wp2_with fail
        refine hK.out _ _ (KP.out _ (Ext.trans XE bn)) (fun _ => ?_)
        clear hK K
        try simp only [Act.put, List.getElem_toArray, List.getElem_cons_succ, List.getElem_cons_zero, List.setIfInBounds_toArray, List.set_cons_zero, List.set_cons_succ]
        exact wpAnyH_to (L2_7_8 wn v1 vn B7 B8 (Ext.trans XE bn) (p1.out.ext bn) (on.mono (Below.size XE)) (r7.out.ext bn) s7 (r8.out.ext bn) s8 ne7_8) (by kernel_rfl) (by kernel_rfl) rfl rfl
      · skip
        go_simp
        refine hK.out _ _ (KP.out _ (Ext.trans XE (Ext.alloc wv (.cells [.bool false, .slice none 0 0, .slice none 0 0, .bool false, .slice none 0 0, .slice none 0 0].toArray 56)))) (fun _ => ?_)
        clear hK K
        try simp only [Act.put, List.getElem_toArray, List.getElem_cons_succ, List.getElem_cons_zero, List.setIfInBounds_toArray, List.set_cons_zero, List.set_cons_succ]
        exact wpAnyH_to (L1_6_7_8 _ v1 wv.heap.size B7 B8 (Ext.trans XE (Ext.alloc wv (.cells [.bool false, .slice none 0 0, .slice none 0 0, .bool false, .slice none 0 0, .slice none 0 0].toArray 56))) (p1.out.ext (Ext.alloc wv (.cells [.bool false, .slice none 0 0, .slice none 0 0, .bool false, .slice none 0 0, .slice none 0 0].toArray 56))) (Rt.new wv [.bool false, .slice none 0 0, .slice none 0 0, .bool false, .slice none 0 0, .slice none 0 0] 56) (Below.size XE) (r7.out.ext (Ext.alloc wv (.cells [.bool false, .slice none 0 0, .slice none 0 0, .bool false, .slice none 0 0, .slice none 0 0].toArray 56))) s7 (r8.out.ext (Ext.alloc wv (.cells [.bool false, .slice none 0 0, .slice none 0 0, .bool false, .slice none 0 0, .slice none 0 0].toArray 56))) s8 (Nat.ne_of_gt r7.out.lt) (Nat.ne_of_gt r8.out.lt) ne7_8) (by kernel_rfl) (by kernel_rfl) rfl rfl
    have L2_6 : ∀ (wv : World) (v1 v3 : Value) (B6 : Nat), Hid (Ext w1 wv) → Hid (OwnD 148 w1.heap.size wv v1 a b) → Hid (OwnD 148 w1.heap.size wv v3 c d) → Hid (Rt wv B6 6 56) → Hid (w1.heap.size ≤ B6) → wpAnyH Try.prog .any O Q9 SS 6 #[true, true, true, true, true, false, true, false, false, false, false, false] ⟨#[.agg #[u0, u1, u2, u3, u4, u5], .agg #[q0, q1, q2, q3, q4, q5], .agg #[.bool s2, t1, t2], .pointer (some ⟨w.heap.size, 0, none⟩), .pointer (some ⟨w.heap.size + 1, 0, none⟩), .pointer (some ⟨w.heap.size + 1 + 1, 0, none⟩), .bool false, .pointer (some ⟨B6, 0, none⟩), undef, undef, undef, undef, .agg #[u0, u1, u2, u3, u4, u5], v1, .agg #[q0, q1, q2, q3, q4, q5], v3, .agg #[.bool s2, t1, t2], undef, undef, undef, undef, undef, undef, undef, undef, undef, undef, undef, undef, undef, undef, undef, undef, undef, undef, undef, undef, undef, undef, undef, undef, undef, undef, undef, undef, undef, undef, undef, undef, undef, undef, undef, undef, undef, undef, undef, undef, undef, undef, undef, undef, undef, undef, undef, undef, undef, undef, undef, undef, undef, undef, undef, undef, undef, undef, undef, undef, undef, undef, undef, undef, undef, undef, undef, undef, undef, undef, undef, undef, undef, undef, undef, undef, undef, undef, undef, undef], []⟩ wv := by
      intro wv v1 v3 B6 hX p1 p3 r6 s6
      have hO1 := hO.out
      have hQ1 := hQ.out
      subst hO1
      subst hQ1
      have XE := hX.out
      refine wpAnyH_ready (rs := [5, 7, 8]) (by kernel_rfl) (by simp) ?_
      refine AllReadyH.cons (o := _) rfl (fun K hK => ?_) (AllReadyH.cons (o := _) rfl (fun K hK => ?_) (AllReadyH.cons (o := _) rfl (fun K hK => ?_) AllReadyH.nil))
      · skip
        go_simp
        go_at_call 32
        refine (HN.out _ _ (HV2.out.ext (Ext.trans b1 XE))).mono ?_
        rintro e wn ⟨vn, rfl, bn, on⟩
        go_wp2_with fail
        refine hK.out _ _ (KP.out _ (Ext.trans XE bn)) (fun _ => ?_)
        clear hK K
        try simp only [Act.put, List.getElem_toArray, List.getElem_cons_succ, List.getElem_cons_zero, List.setIfInBounds_toArray, List.set_cons_zero, List.set_cons_succ]
        exact wpAnyH_to (L3_6 wn v1 v3 vn B6 (Ext.trans XE bn) (p1.out.ext bn) (p3.out.ext bn) (on.mono (Below.size XE)) (r6.out.ext bn) s6) (by kernel_rfl) (by kernel_rfl) rfl rfl
      · skip
        go_simp
        refine hK.out _ _ (KP.out _ (Ext.trans XE (Ext.alloc wv (.cells [.bool false, .slice none 0 0, .slice none 0 0, .bool false, .slice none 0 0, .slice none 0 0].toArray 56)))) (fun _ => ?_)
        clear hK K
        try simp only [Act.put, List.getElem_toArray, List.getElem_cons_succ, List.getElem_cons_zero, List.setIfInBounds_toArray, List.set_cons_zero, List.set_cons_succ]
        exact wpAnyH_to (L2_6_7 _ v1 v3 B6 wv.heap.size (Ext.trans XE (Ext.alloc wv (.cells [.bool false, .slice none 0 0, .slice none 0 0, .bool false, .slice none 0 0, .slice none 0 0].toArray 56))) (p1.out.ext (Ext.alloc wv (.cells [.bool false, .slice none 0 0, .slice none 0 0, .bool false, .slice none 0 0, .slice none 0 0].toArray 56))) (p3.out.ext (Ext.alloc wv (.cells [.bool false, .slice none 0 0, .slice none 0 0, .bool false, .slice none 0 0, .slice none 0 0].toArray 56))) (r6.out.ext (Ext.alloc wv (.cells [.bool false, .slice none 0 0, .slice none 0 0, .bool false, .slice none 0 0, .slice none 0 0].toArray 56))) s6 (Rt.new wv [.bool false, .slice none 0 0, .slice none 0 0, .bool false, .slice none 0 0, .slice none 0 0] 56) (Below.size XE) (Nat.ne_of_lt r6.out.lt)) (by kernel_rfl) (by kernel_rfl) rfl rfl
      · skip
        go_simp
        refine hK.out _ _ (KP.out _ (Ext.trans XE (Ext.alloc wv (.cells [.bool false, .slice none 0 0, .slice none 0 0].toArray 28)))) (fun _ => ?_)
        clear hK K
        try simp only [Act.put, List.getElem_toArray, List.getElem_cons_succ, List.getElem_cons_zero, List.setIfInBounds_toArray, List.set_cons_zero, List.set_cons_succ]
        exact wpAnyH_to (L2_6_8 _ v1 v3 B6 wv.heap.size (Ext.trans XE (Ext.alloc wv (.cells [.bool false, .slice none 0 0, .slice none 0 0].toArray 28))) (p1.out.ext (Ext.alloc wv (.cells [.bool false, .slice none 0 0, .slice none 0 0].toArray 28))) (p3.out.ext (Ext.alloc wv (.cells [.bool false, .slice none 0 0, .slice none 0 0].toArray 28))) (r6.out.ext (Ext.alloc wv (.cells [.bool false, .slice none 0 0, .slice none 0 0].toArray 28))) s6 (Rt.new wv [.bool false, .slice none 0 0, .slice none 0 0] 28) (Below.size XE) (Nat.ne_of_lt r6.out.lt)) (by kernel_rfl) (by kernel_rfl) rfl rfl
    have L2_7 : ∀ (wv : World) (v1 v3 : Value) (B7 : Nat), Hid (Ext w1 wv) → Hid (OwnD 148 w1.heap.size wv v1 a b) → Hid (OwnD 148 w1.heap.size wv v3 c d) → Hid (Rt wv B7 6 56) → Hid (w1.heap.size ≤ B7) → wpAnyH Try.prog .any O Q9 SS 6 #[true, true, true, true, true, false, false, true, false, false, false, false] ⟨#[.agg #[u0, u1, u2, u3, u4, u5], .agg #[q0, q1, q2, q3, q4, q5], .agg #[.bool s2, t1, t2], .pointer (some ⟨w.heap.size, 0, none⟩), .pointer (some ⟨w.heap.size + 1, 0, none⟩), .pointer (some ⟨w.heap.size + 1 + 1, 0, none⟩), .bool false, undef, .pointer (some ⟨B7, 0, none⟩), undef, undef, undef, .agg #[u0, u1, u2, u3, u4, u5], v1, .agg #[q0, q1, q2, q3, q4, q5], v3, .agg #[.bool s2, t1, t2], undef, undef, undef, undef, undef, undef, undef, undef, undef, undef, undef, undef, undef, undef, undef, undef, undef, undef, undef, undef, undef, undef, undef, undef, undef, undef, undef, undef, undef, undef, undef, undef, undef, undef, undef, undef, undef, undef, undef, undef, undef, undef, undef, undef, undef, undef, undef, undef, undef, undef, undef, undef, undef, undef, undef, undef, undef, undef, undef, undef, undef, undef, undef, undef, undef, undef, undef, undef, undef, undef, undef, undef, undef, undef, undef, undef, undef, undef, undef, undef], []⟩ wv := by
      intro wv v1 v3 B7 hX p1 p3 r7 s7
      have hO1 := hO.out
      have hQ1 := hQ.out
      subst hO1
      subst hQ1
      have XE := hX.out
      refine wpAnyH_ready (rs := [5, 6, 8]) (by kernel_rfl) (by simp) ?_
      refine AllReadyH.cons (o := _) rfl (fun K hK => ?_) (AllReadyH.cons (o := _) rfl (fun K hK => ?_) (AllReadyH.cons (o := _) rfl (fun K hK => ?_) AllReadyH.nil))
      · skip
        go_simp
        go_at_call 32
        refine (HN.out _ _ (HV2.out.ext (Ext.trans b1 XE))).mono ?_
        rintro e wn ⟨vn, rfl, bn, on⟩
        go_wp2_with fail
        refine hK.out _ _ (KP.out _ (Ext.trans XE bn)) (fun _ => ?_)
        clear hK K
        try simp only [Act.put, List.getElem_toArray, List.getElem_cons_succ, List.getElem_cons_zero, List.setIfInBounds_toArray, List.set_cons_zero, List.set_cons_succ]
        exact wpAnyH_to (L3_7 wn v1 v3 vn B7 (Ext.trans XE bn) (p1.out.ext bn) (p3.out.ext bn) (on.mono (Below.size XE)) (r7.out.ext bn) s7) (by kernel_rfl) (by kernel_rfl) rfl rfl
      · skip
        go_simp
        refine hK.out _ _ (KP.out _ (Ext.trans XE (Ext.alloc wv (.cells [.bool false, .slice none 0 0, .slice none 0 0, .bool false, .slice none 0 0, .slice none 0 0].toArray 56)))) (fun _ => ?_)
        clear hK K
        try simp only [Act.put, List.getElem_toArray, List.getElem_cons_succ, List.getElem_cons_zero, List.setIfInBounds_toArray, List.set_cons_zero, List.set_cons_succ]
        exact wpAnyH_to (L2_6_7 _ v1 v3 wv.heap.size B7 (Ext.trans XE (Ext.alloc wv (.cells [.bool false, .slice none 0 0, .slice none 0 0, .bool false, .slice none 0 0, .slice none 0 0].toArray 56))) (p1.out.ext (Ext.alloc wv (.cells [.bool false, .slice none 0 0, .slice none 0 0, .bool false, .slice none 0 0, .slice none 0 0].toArray 56))) (p3.out.ext (Ext.alloc wv (.cells [.bool false, .slice none 0 0, .slice none 0 0, .bool false, .slice none 0 0, .slice none 0 0].toArray 56))) (Rt.new wv [.bool false, .slice none 0 0, .slice none 0 0, .bool false, .slice none 0 0, .slice none 0 0] 56) (Below.size XE) (r7.out.ext (Ext.alloc wv (.cells [.bool false, .slice none 0 0, .slice none 0 0, .bool false, .slice none 0 0, .slice none 0 0].toArray 56))) s7 (Nat.ne_of_gt r7.out.lt)) (by kernel_rfl) (by kernel_rfl) rfl rfl
      · skip
        go_simp
        refine hK.out _ _ (KP.out _ (Ext.trans XE (Ext.alloc wv (.cells [.bool false, .slice none 0 0, .slice none 0 0].toArray 28)))) (fun _ => ?_)
        clear hK K
        try simp only [Act.put, List.getElem_toArray, List.getElem_cons_succ, List.getElem_cons_zero, List.setIfInBounds_toArray, List.set_cons_zero, List.set_cons_succ]
        exact wpAnyH_to (L2_7_8 _ v1 v3 B7 wv.heap.size (Ext.trans XE (Ext.alloc wv (.cells [.bool false, .slice none 0 0, .slice none 0 0].toArray 28))) (p1.out.ext (Ext.alloc wv (.cells [.bool false, .slice none 0 0, .slice none 0 0].toArray 28))) (p3.out.ext (Ext.alloc wv (.cells [.bool false, .slice none 0 0, .slice none 0 0].toArray 28))) (r7.out.ext (Ext.alloc wv (.cells [.bool false, .slice none 0 0, .slice none 0 0].toArray 28))) s7 (Rt.new wv [.bool false, .slice none 0 0, .slice none 0 0] 28) (Below.size XE) (Nat.ne_of_lt r7.out.lt)) (by kernel_rfl) (by kernel_rfl) rfl rfl
    have L2_8 : ∀ (wv : World) (v1 v3 : Value) (B8 : Nat), Hid (Ext w1 wv) → Hid (OwnD 148 w1.heap.size wv v1 a b) → Hid (OwnD 148 w1.heap.size wv v3 c d) → Hid (Rt wv B8 3 28) → Hid (w1.heap.size ≤ B8) → wpAnyH Try.prog .any O Q9 SS 6 #[true, true, true, true, true, false, false, false, true, false, false, false] ⟨#[.agg #[u0, u1, u2, u3, u4, u5], .agg #[q0, q1, q2, q3, q4, q5], .agg #[.bool s2, t1, t2], .pointer (some ⟨w.heap.size, 0, none⟩), .pointer (some ⟨w.heap.size + 1, 0, none⟩), .pointer (some ⟨w.heap.size + 1 + 1, 0, none⟩), .bool false, undef, undef, .pointer (some ⟨B8, 0, none⟩), undef, undef, .agg #[u0, u1, u2, u3, u4, u5], v1, .agg #[q0, q1, q2, q3, q4, q5], v3, .agg #[.bool s2, t1, t2], undef, undef, undef, undef, undef, undef, undef, undef, undef, undef, undef, undef, undef, undef, undef, undef, undef, undef, undef, undef, undef, undef, undef, undef, undef, undef, undef, undef, undef, undef, undef, undef, undef, undef, undef, undef, undef, undef, undef, undef, undef, undef, undef, undef, undef, undef, undef, undef, undef, undef, undef, undef, undef, undef, undef, undef, undef, undef, undef, undef, undef, undef, undef, undef, undef, undef, undef, undef, undef, undef, undef, undef, undef, undef, undef, undef, undef, undef, undef, undef], []⟩ wv := by
      intro wv v1 v3 B8 hX p1 p3 r8 s8
      have hO1 := hO.out
      have hQ1 := hQ.out
      subst hO1
      subst hQ1
      have XE := hX.out
      refine wpAnyH_ready (rs := [5, 6, 7]) (by kernel_rfl) (by simp) ?_
      refine AllReadyH.cons (o := _) rfl (fun K hK => ?_) (AllReadyH.cons (o := _) rfl (fun K hK => ?_) (AllReadyH.cons (o := _) rfl (fun K hK => ?_) AllReadyH.nil))
      · skip
        go_simp
        go_at_call 32
        refine (HN.out _ _ (HV2.out.ext (Ext.trans b1 XE))).mono ?_
        rintro e wn ⟨vn, rfl, bn, on⟩
        go_wp2_with fail
        refine hK.out _ _ (KP.out _ (Ext.trans XE bn)) (fun _ => ?_)
        clear hK K
        try simp only [Act.put, List.getElem_toArray, List.getElem_cons_succ, List.getElem_cons_zero, List.setIfInBounds_toArray, List.set_cons_zero, List.set_cons_succ]
        exact wpAnyH_to (L3_8 wn v1 v3 vn B8 (Ext.trans XE bn) (p1.out.ext bn) (p3.out.ext bn) (on.mono (Below.size XE)) (r8.out.ext bn) s8) (by kernel_rfl) (by kernel_rfl) rfl rfl
      · skip
        go_simp
        refine hK.out _ _ (KP.out _ (Ext.trans XE (Ext.alloc wv (.cells [.bool false, .slice none 0 0, .slice none 0 0, .bool false, .slice none 0 0, .slice none 0 0].toArray 56)))) (fun _ => ?_)
        clear hK K
        try simp only [Act.put, List.getElem_toArray, List.getElem_cons_succ, List.getElem_cons_zero, List.setIfInBounds_toArray, List.set_cons_zero, List.set_cons_succ]
        exact wpAnyH_to (L2_6_8 _ v1 v3 wv.heap.size B8 (Ext.trans XE (Ext.alloc wv (.cells [.bool false, .slice none 0 0, .slice none 0 0, .bool false, .slice none 0 0, .slice none 0 0].toArray 56))) (p1.out.ext (Ext.alloc wv (.cells [.bool false, .slice none 0 0, .slice none 0 0, .bool false, .slice none 0 0, .slice none 0 0].toArray 56))) (p3.out.ext (Ext.alloc wv (.cells [.bool false, .slice none 0 0, .slice none 0 0, .bool false, .slice none 0 0, .slice none 0 0].toArray 56))) (Rt.new wv [.bool false, .slice none 0 0, .slice none 0 0, .bool false, .slice none 0 0, .slice none 0 0] 56) (Below.size XE) (r8.out.ext (Ext.alloc wv (.cells [.bool false, .slice none 0 0, .slice none 0 0, .bool false, .slice none 0 0, .slice none 0 0].toArray 56))) s8 (Nat.ne_of_gt r8.out.lt)) (by kernel_rfl) (by kernel_rfl) rfl rfl
      · skip
        go_simp
        refine hK.out _ _ (KP.out _ (Ext.trans XE (Ext.alloc wv (.cells [.bool false, .slice none 0 0, .slice none 0 0, .bool false, .slice none 0 0, .slice none 0 0].toArray 56)))) (fun _ => ?_)
        clear hK K
        try simp only [Act.put, List.getElem_toArray, List.getElem_cons_succ, List.getElem_cons_zero, List.setIfInBounds_toArray, List.set_cons_zero, List.set_cons_succ]
        exact wpAnyH_to (L2_7_8 _ v1 v3 wv.heap.size B8 (Ext.trans XE (Ext.alloc wv (.cells [.bool false, .slice none 0 0, .slice none 0 0, .bool false, .slice none 0 0, .slice none 0 0].toArray 56))) (p1.out.ext (Ext.alloc wv (.cells [.bool false, .slice none 0 0, .slice none 0 0, .bool false, .slice none 0 0, .slice none 0 0].toArray 56))) (p3.out.ext (Ext.alloc wv (.cells [.bool false, .slice none 0 0, .slice none 0 0, .bool false, .slice none 0 0, .slice none 0 0].toArray 56))) (Rt.new wv [.bool false, .slice none 0 0, .slice none 0 0, .bool false, .slice none 0 0, .slice none 0 0] 56) (Below.size XE) (r8.out.ext (Ext.alloc wv (.cells [.bool false, .slice none 0 0, .slice none 0 0, .bool false, .slice none 0 0, .slice none 0 0].toArray 56))) s8 (Nat.ne_of_gt r8.out.lt)) (by kernel_rfl) (by kernel_rfl) rfl rfl
    have L3_ : ∀ (wv : World) (v1 v3 v5 : Value), Hid (Ext w1 wv) → Hid (OwnD 148 w1.heap.size wv v1 a b) → Hid (OwnD 148 w1.heap.size wv v3 c d) → Hid (OwnQ 148 w1.heap.size wv v5 r) → wpAnyH Try.prog .any O Q9 SS 6 #[true, true, true, true, true, true, false, false, false, false, false, false] ⟨#[.agg #[u0, u1, u2, u3, u4, u5], .agg #[q0, q1, q2, q3, q4, q5], .agg #[.bool s2, t1, t2], .pointer (some ⟨w.heap.size, 0, none⟩), .pointer (some ⟨w.heap.size + 1, 0, none⟩), .pointer (some ⟨w.heap.size + 1 + 1, 0, none⟩), .bool false, undef, undef, undef, undef, undef, .agg #[u0, u1, u2, u3, u4, u5], v1, .agg #[q0, q1, q2, q3, q4, q5], v3, .agg #[.bool s2, t1, t2], v5, undef, undef, undef, undef, undef, undef, undef, undef, undef, undef, undef, undef, undef, undef, undef, undef, undef, undef, undef, undef, undef, undef, undef, undef, undef, undef, undef, undef, undef, undef, undef, undef, undef, undef, undef, undef, undef, undef, undef, undef, undef, undef, undef, undef, undef, undef, undef, undef, undef, undef, undef, undef, undef, undef, undef, undef, undef, undef, undef, undef, undef, undef, undef, undef, undef, undef, undef, undef, undef, undef, undef, undef, undef, undef, undef, undef, undef, undef, undef], []⟩ wv := by
      intro wv v1 v3 v5 hX p1 p3 p5
      have hO1 := hO.out
      have hQ1 := hQ.out
      subst hO1
      subst hQ1
      have XE := hX.out
      refine wpAnyH_ready (rs := [6, 7, 8]) (by kernel_rfl) (by simp) ?_
      refine AllReadyH.cons (o := _) rfl (fun K hK => ?_) (AllReadyH.cons (o := _) rfl (fun K hK => ?_) (AllReadyH.cons (o := _) rfl (fun K hK => ?_) AllReadyH.nil))
      · skip
        go_simp
        refine hK.out _ _ (KP.out _ (Ext.trans XE (Ext.alloc wv (.cells [.bool false, .slice none 0 0, .slice none 0 0, .bool false, .slice none 0 0, .slice none 0 0].toArray 56)))) (fun _ => ?_)
        clear hK K
        try simp only [Act.put, List.getElem_toArray, List.getElem_cons_succ, List.getElem_cons_zero, List.setIfInBounds_toArray, List.set_cons_zero, List.set_cons_succ]
        exact wpAnyH_to (L3_6 _ v1 v3 v5 wv.heap.size (Ext.trans XE (Ext.alloc wv (.cells [.bool false, .slice none 0 0, .slice none 0 0, .bool false, .slice none 0 0, .slice none 0 0].toArray 56))) (p1.out.ext (Ext.alloc wv (.cells [.bool false, .slice none 0 0, .slice none 0 0, .bool false, .slice none 0 0, .slice none 0 0].toArray 56))) (p3.out.ext (Ext.alloc wv (.cells [.bool false, .slice none 0 0, .slice none 0 0, .bool false, .slice none 0 0, .slice none 0 0].toArray 56))) (p5.out.ext (Ext.alloc wv (.cells [.bool false, .slice none 0 0, .slice none 0 0, .bool false, .slice none 0 0, .slice none 0 0].toArray 56))) (Rt.new wv [.bool false, .slice none 0 0, .slice none 0 0, .bool false, .slice none 0 0, .slice none 0 0] 56) (Below.size XE)) (by kernel_rfl) (by kernel_rfl) rfl rfl
      · skip
        go_simp
        refine hK.out _ _ (KP.out _ (Ext.trans XE (Ext.alloc wv (.cells [.bool false, .slice none 0 0, .slice none 0 0, .bool false, .slice none 0 0, .slice none 0 0].toArray 56)))) (fun _ => ?_)
        clear hK K
        try simp only [Act.put, List.getElem_toArray, List.getElem_cons_succ, List.getElem_cons_zero, List.setIfInBounds_toArray, List.set_cons_zero, List.set_cons_succ]
        exact wpAnyH_to (L3_7 _ v1 v3 v5 wv.heap.size (Ext.trans XE (Ext.alloc wv (.cells [.bool false, .slice none 0 0, .slice none 0 0, .bool false, .slice none 0 0, .slice none 0 0].toArray 56))) (p1.out.ext (Ext.alloc wv (.cells [.bool false, .slice none 0 0, .slice none 0 0, .bool false, .slice none 0 0, .slice none 0 0].toArray 56))) (p3.out.ext (Ext.alloc wv (.cells [.bool false, .slice none 0 0, .slice none 0 0, .bool false, .slice none 0 0, .slice none 0 0].toArray 56))) (p5.out.ext (Ext.alloc wv (.cells [.bool false, .slice none 0 0, .slice none 0 0, .bool false, .slice none 0 0, .slice none 0 0].toArray 56))) (Rt.new wv [.bool false, .slice none 0 0, .slice none 0 0, .bool false, .slice none 0 0, .slice none 0 0] 56) (Below.size XE)) (by kernel_rfl) (by kernel_rfl) rfl rfl
      · skip
        go_simp
        refine hK.out _ _ (KP.out _ (Ext.trans XE (Ext.alloc wv (.cells [.bool false, .slice none 0 0, .slice none 0 0].toArray 28)))) (fun _ => ?_)
        clear hK K
        try simp only [Act.put, List.getElem_toArray, List.getElem_cons_succ, List.getElem_cons_zero, List.setIfInBounds_toArray, List.set_cons_zero, List.set_cons_succ]
        exact wpAnyH_to (L3_8 _ v1 v3 v5 wv.heap.size (Ext.trans XE (Ext.alloc wv (.cells [.bool false, .slice none 0 0, .slice none 0 0].toArray 28))) (p1.out.ext (Ext.alloc wv (.cells [.bool false, .slice none 0 0, .slice none 0 0].toArray 28))) (p3.out.ext (Ext.alloc wv (.cells [.bool false, .slice none 0 0, .slice none 0 0].toArray 28))) (p5.out.ext (Ext.alloc wv (.cells [.bool false, .slice none 0 0, .slice none 0 0].toArray 28))) (Rt.new wv [.bool false, .slice none 0 0, .slice none 0 0] 28) (Below.size XE)) (by kernel_rfl) (by kernel_rfl) rfl rfl
    have L0_6_7 : ∀ (wv : World) (B6 B7 : Nat), Hid (Ext w1 wv) → Hid (Rt wv B6 6 56) → Hid (w1.heap.size ≤ B6) → Hid (Rt wv B7 6 56) → Hid (w1.heap.size ≤ B7) → Hid (B6 ≠ B7) → wpAnyH Try.prog .any O Q9 SS 7 #[true, false, true, false, true, false, true, true, false, false, false, false] ⟨#[.agg #[u0, u1, u2, u3, u4, u5], .agg #[q0, q1, q2, q3, q4, q5], .agg #[.bool s2, t1, t2], .pointer (some ⟨w.heap.size, 0, none⟩), .pointer (some ⟨w.heap.size + 1, 0, none⟩), .pointer (some ⟨w.heap.size + 1 + 1, 0, none⟩), .bool false, .pointer (some ⟨B6, 0, none⟩), .pointer (some ⟨B7, 0, none⟩), undef, undef, undef, .agg #[u0, u1, u2, u3, u4, u5], undef, .agg #[q0, q1, q2, q3, q4, q5], undef, .agg #[.bool s2, t1, t2], undef, undef, undef, undef, undef, undef, undef, undef, undef, undef, undef, undef, undef, undef, undef, undef, undef, undef, undef, undef, undef, undef, undef, undef, undef, undef, undef, undef, undef, undef, undef, undef, undef, undef, undef, undef, undef, undef, undef, undef, undef, undef, undef, undef, undef, undef, undef, undef, undef, undef, undef, undef, undef, undef, undef, undef, undef, undef, undef, undef, undef, undef, undef, undef, undef, undef, undef, undef, undef, undef, undef, undef, undef, undef, undef, undef, undef, undef, undef, undef], []⟩ wv := by
      intro wv B6 B7 hX r6 s6 r7 s7 ne6_7
      have hO1 := hO.out
      have hQ1 := hQ.out
      subst hO1
      subst hQ1
      have XE := hX.out
      refine wpAnyH_ready (rs := [1, 8]) (by kernel_rfl) (by simp) ?_
      refine AllReadyH.cons (o := _) rfl (fun K hK => ?_) (AllReadyH.cons (o := _) rfl (fun K hK => ?_) AllReadyH.nil)
      · skip
        go_simp
        go_at_call 31
        refine (HA.out _ _ (HV0.out.ext (Ext.trans b1 XE))).mono ?_
        rintro e wn ⟨vn, rfl, bn, on⟩
        go_wp2_with fail
        refine hK.out _ _ (KP.out _ (Ext.trans XE bn)) (fun _ => ?_)
        clear hK K
        try simp only [Act.put, List.getElem_toArray, List.getElem_cons_succ, List.getElem_cons_zero, List.setIfInBounds_toArray, List.set_cons_zero, List.set_cons_succ]
        exact wpAnyH_to (L1_6_7 wn vn B6 B7 (Ext.trans XE bn) (on.mono (Below.size XE)) (r6.out.ext bn) s6 (r7.out.ext bn) s7 ne6_7) (by kernel_rfl) (by kernel_rfl) rfl rfl
      · skip
        go_simp
        refine hK.out _ _ (KP.out _ (Ext.trans XE (Ext.alloc wv (.cells [.bool false, .slice none 0 0, .slice none 0 0].toArray 28)))) (fun _ => ?_)
        clear hK K
        try simp only [Act.put, List.getElem_toArray, List.getElem_cons_succ, List.getElem_cons_zero, List.setIfInBounds_toArray, List.set_cons_zero, List.set_cons_succ]
        exact wpAnyH_to (L0_6_7_8 _ B6 B7 wv.heap.size (Ext.trans XE (Ext.alloc wv (.cells [.bool false, .slice none 0 0, .slice none 0 0].toArray 28))) (r6.out.ext (Ext.alloc wv (.cells [.bool false, .slice none 0 0, .slice none 0 0].toArray 28))) s6 (r7.out.ext (Ext.alloc wv (.cells [.bool false, .slice none 0 0, .slice none 0 0].toArray 28))) s7 (Rt.new wv [.bool false, .slice none 0 0, .slice none 0 0] 28) (Below.size XE) ne6_7 (Nat.ne_of_lt r6.out.lt) (Nat.ne_of_lt r7.out.lt)) (by kernel_rfl) (by kernel_rfl) rfl rfl
    have L0_6_8 : ∀ (wv : World) (B6 B8 : Nat), Hid (Ext w1 wv) → Hid (Rt wv B6 6 56) → Hid (w1.heap.size ≤ B6) → Hid (Rt wv B8 3 28) → Hid (w1.heap.size ≤ B8) → Hid (B6 ≠ B8) → wpAnyH Try.prog .any O Q9 SS 7 #[true, false, true, false, true, false, true, false, true, false, false, false] ⟨#[.agg #[u0, u1, u2, u3, u4, u5], .agg #[q0, q1, q2, q3, q4, q5], .agg #[.bool s2, t1, t2], .pointer (some ⟨w.heap.size, 0, none⟩), .pointer (some ⟨w.heap.size + 1, 0, none⟩), .pointer (some ⟨w.heap.size + 1 + 1, 0, none⟩), .bool false, .pointer (some ⟨B6, 0, none⟩), undef, .pointer (some ⟨B8, 0, none⟩), undef, undef, .agg #[u0, u1, u2, u3, u4, u5], undef, .agg #[q0, q1, q2, q3, q4, q5], undef, .agg #[.bool s2, t1, t2], undef, undef, undef, undef, undef, undef, undef, undef, undef, undef, undef, undef, undef, undef, undef, undef, undef, undef, undef, undef, undef, undef, undef, undef, undef, undef, undef, undef, undef, undef, undef, undef, undef, undef, undef, undef, undef, undef, undef, undef, undef, undef, undef, undef, undef, undef, undef, undef, undef, undef, undef, undef, undef, undef, undef, undef, undef, undef, undef, undef, undef, undef, undef, undef, undef, undef, undef, undef, undef, undef, undef, undef, undef, undef, undef, undef, undef, undef, undef, undef], []⟩ wv := by
      intro wv B6 B8 hX r6 s6 r8 s8 ne6_8
      have hO1 := hO.out
      have hQ1 := hQ.out
      subst hO1
      subst hQ1
      have XE := hX.out
      refine wpAnyH_ready (rs := [1, 7]) (by kernel_rfl) (by simp) ?_
      refine AllReadyH.cons (o := _) rfl (fun K hK => ?_) (AllReadyH.cons (o := _) rfl (fun K hK => ?_) AllReadyH.nil)
      · skip
        go_simp
        go_at_call 31
        refine (HA.out _ _ (HV0.out.ext (Ext.trans b1 XE))).mono ?_
        rintro e wn ⟨vn, rfl, bn, on⟩
        go_wp2_with fail
        refine hK.out _ _ (KP.out _ (Ext.trans XE bn)) (fun _ => ?_)
        clear hK K
        try simp only [Act.put, List.getElem_toArray, List.getElem_cons_succ, List.getElem_cons_zero, List.setIfInBounds_toArray, List.set_cons_zero, List.set_cons_succ]
        exact wpAnyH_to (L1_6_8 wn vn B6 B8 (Ext.trans XE bn) (on.mono (Below.size XE)) (r6.out.ext bn) s6 (r8.out.ext bn) s8 ne6_8) (by kernel_rfl) (by kernel_rfl) rfl rfl
      · skip
        go_simp
        refine hK.out _ _ (KP.out _ (Ext.trans XE (Ext.alloc wv (.cells [.bool false, .slice none 0 0, .slice none 0 0, .bool false, .slice none 0 0, .slice none 0 0].toArray 56)))) (fun _ => ?_)
        clear hK K
        try simp only [Act.put, List.getElem_toArray, List.getElem_cons_succ, List.getElem_cons_zero, List.setIfInBounds_toArray, List.set_cons_zero, List.set_cons_succ]
        exact wpAnyH_to (L0_6_7_8 _ B6 wv.heap.size B8 (Ext.trans XE (Ext.alloc wv (.cells [.bool false, .slice none 0 0, .slice none 0 0, .bool false, .slice none 0 0, .slice none 0 0].toArray 56))) (r6.out.ext (Ext.alloc wv (.cells [.bool false, .slice none 0 0, .slice none 0 0, .bool false, .slice none 0 0, .slice none 0 0].toArray 56))) s6 (Rt.new wv [.bool false, .slice none 0 0, .slice none 0 0, .bool false, .slice none 0 0, .slice none 0 0] 56) (Below.size XE) (r8.out.ext (Ext.alloc wv (.cells [.bool false, .slice none 0 0, .slice none 0 0, .bool false, .slice none 0 0, .slice none 0 0].toArray 56))) s8 (Nat.ne_of_lt r6.out.lt) ne6_8 (Nat.ne_of_gt r8.out.lt)) (by kernel_rfl) (by kernel_rfl) rfl rfl
    have L0_7_8 : ∀ (wv : World) (B7 B8 : Nat), Hid (Ext w1 wv) → Hid (Rt wv B7 6 56) → Hid (w1.heap.size ≤ B7) → Hid (Rt wv B8 3 28) → Hid (w1.heap.size ≤ B8) → Hid (B7 ≠ B8) → wpAnyH Try.prog .any O Q9 SS 7 #[true, false, true, false, true, false, false, true, true, false, false, false] ⟨#[.agg #[u0, u1, u2, u3, u4, u5], .agg #[q0, q1, q2, q3, q4, q5], .agg #[.bool s2, t1, t2], .pointer (some ⟨w.heap.size, 0, none⟩), .pointer (some ⟨w.heap.size + 1, 0, none⟩), .pointer (some ⟨w.heap.size + 1 + 1, 0, none⟩), .bool false, undef, .pointer (some ⟨B7, 0, none⟩), .pointer (some ⟨B8, 0, none⟩), undef, undef, .agg #[u0, u1, u2, u3, u4, u5], undef, .agg #[q0, q1, q2, q3, q4, q5], undef, .agg #[.bool s2, t1, t2], undef, undef, undef, undef, undef, undef, undef, undef, undef, undef, undef, undef, undef, undef, undef, undef, undef, undef, undef, undef, undef, undef, undef, undef, undef, undef, undef, undef, undef, undef, undef, undef, undef, undef, undef, undef, undef, undef, undef, undef, undef, undef, undef, undef, undef, undef, undef, undef, undef, undef, undef, undef, undef, undef, undef, undef, undef, undef, undef, undef, undef, undef, undef, undef, undef, undef, undef, undef, undef, undef, undef, undef, undef, undef, undef, undef, undef, undef, undef, undef], []⟩ wv := by
      intro wv B7 B8 hX r7 s7 r8 s8 ne7_8
      have hO1 := hO.out
      have hQ1 := hQ.out
      subst hO1
      subst hQ1
      have XE := hX.out
      refine wpAnyH_ready (rs := [1, 6]) (by kernel_rfl) (by simp) ?_
      refine AllReadyH.cons (o := _) rfl (fun K hK => ?_) (AllReadyH.cons (o := _) rfl (fun K hK => ?_) AllReadyH.nil)
      · skip
        go_simp
        go_at_call 31
        refine (HA.out _ _ (HV0.out.ext (Ext.trans b1 XE))).mono ?_
        rintro e wn ⟨vn, rfl, bn, on⟩
        go_wp2_with fail
        refine hK.out _ _ (KP.out _ (Ext.trans XE bn)) (fun _ => ?_)
        clear hK K
        try simp only [Act.put, List.getElem_toArray, List.getElem_cons_succ, List.getElem_cons_zero, List.setIfInBounds_toArray, List.set_cons_zero, List.set_cons_succ]
        exact wpAnyH_to (L1_7_8 wn vn B7 B8 (Ext.trans XE bn) (on.mono (Below.size XE)) (r7.out.ext bn) s7 (r8.out.ext bn) s8 ne7_8) (by kernel_rfl) (by kernel_rfl) rfl rfl
      · skip
        go_simp
        refine hK.out _ _ (KP.out _ (Ext.trans XE (Ext.alloc wv (.cells [.bool false, .slice none 0 0, .slice none 0 0, .bool false, .slice none 0 0, .slice none 0 0].toArray 56)))) (fun _ => ?_)
        clear hK K
        try simp only [Act.put, List.getElem_toArray, List.getElem_cons_succ, List.getElem_cons_zero, List.setIfInBounds_toArray, List.set_cons_zero, List.set_cons_succ]
        exact wpAnyH_to (L0_6_7_8 _ wv.heap.size B7 B8 (Ext.trans XE (Ext.alloc wv (.cells [.bool false, .slice none 0 0, .slice none 0 0, .bool false, .slice none 0 0, .slice none 0 0].toArray 56))) (Rt.new wv [.bool false, .slice none 0 0, .slice none 0 0, .bool false, .slice none 0 0, .slice none 0 0] 56) (Below.size XE) (r7.out.ext (Ext.alloc wv (.cells [.bool false, .slice none 0 0, .slice none 0 0, .bool false, .slice none 0 0, .slice none 0 0].toArray 56))) s7 (r8.out.ext (Ext.alloc wv (.cells [.bool false, .slice none 0 0, .slice none 0 0, .bool false, .slice none 0 0, .slice none 0 0].toArray 56))) s8 (Nat.ne_of_gt r7.out.lt) (Nat.ne_of_gt r8.out.lt) ne7_8) (by kernel_rfl) (by kernel_rfl) rfl rfl
    have L1_6 : ∀ (wv : World) (v1 : Value) (B6 : Nat), Hid (Ext w1 wv) → Hid (OwnD 148 w1.heap.size wv v1 a b) → Hid (Rt wv B6 6 56) → Hid (w1.heap.size ≤ B6) → wpAnyH Try.prog .any O Q9 SS 7 #[true, true, true, false, true, false, true, false, false, false, false, false] ⟨#[.agg #[u0, u1, u2, u3, u4, u5], .agg #[q0, q1, q2, q3, q4, q5], .agg #[.bool s2, t1, t2], .pointer (some ⟨w.heap.size, 0, none⟩), .pointer (some ⟨w.heap.size + 1, 0, none⟩), .pointer (some ⟨w.heap.size + 1 + 1, 0, none⟩), .bool false, .pointer (some ⟨B6, 0, none⟩), undef, undef, undef, undef, .agg #[u0, u1, u2, u3, u4, u5], v1, .agg #[q0, q1, q2, q3, q4, q5], undef, .agg #[.bool s2, t1, t2], undef, undef, undef, undef, undef, undef, undef, undef, undef, undef, undef, undef, undef, undef, undef, undef, undef, undef, undef, undef, undef, undef, undef, undef, undef, undef, undef, undef, undef, undef, undef, undef, undef, undef, undef, undef, undef, undef, undef, undef, undef, undef, undef, undef, undef, undef, undef, undef, undef, undef, undef, undef, undef, undef, undef, undef, undef, undef, undef, undef, undef, undef, undef, undef, undef, undef, undef, undef, undef, undef, undef, undef, undef, undef, undef, undef, undef, undef, undef, undef], []⟩ wv := by
      intro wv v1 B6 hX p1 r6 s6
      have hO1 := hO.out
      have hQ1 := hQ.out
      subst hO1
      subst hQ1
      have XE := hX.out
      refine wpAnyH_ready (rs := [3, 7, 8]) (by kernel_rfl) (by simp) ?_
      refine AllReadyH.cons (o := _) rfl (fun K hK => ?_) (AllReadyH.cons (o := _) rfl (fun K hK => ?_) (AllReadyH.cons (o := _) rfl (fun K hK => ?_) AllReadyH.nil))
      · skip
        go_simp
        go_at_call 31
        refine (HB.out _ _ (HV1.out.ext (Ext.trans b1 XE))).mono ?_
        rintro e wn ⟨vn, rfl, bn, on⟩
        go_wp2_with fail
        refine hK.out _ _ (KP.out _ (Ext.trans XE bn)) (fun _ => ?_)
        clear hK K
        try simp only [Act.put, List.getElem_toArray, List.getElem_cons_succ, List.getElem_cons_zero, List.setIfInBounds_toArray, List.set_cons_zero, List.set_cons_succ]
        exact wpAnyH_to (L2_6 wn v1 vn B6 (Ext.trans XE bn) (p1.out.ext bn) (on.mono (Below.size XE)) (r6.out.ext bn) s6) (by kernel_rfl) (by kernel_rfl) rfl rfl
      · skip
        go_simp
        refine hK.out _ _ (KP.out _ (Ext.trans XE (Ext.alloc wv (.cells [.bool false, .slice none 0 0, .slice none 0 0, .bool false, .slice none 0 0, .slice none 0 0].toArray 56)))) (fun _ => ?_)
        clear hK K
        try simp only [Act.put, List.getElem_toArray, List.getElem_cons_succ, List.getElem_cons_zero, List.setIfInBounds_toArray, List.set_cons_zero, List.set_cons_succ]
        exact wpAnyH_to (L1_6_7 _ v1 B6 wv.heap.size (Ext.trans XE (Ext.alloc wv (.cells [.bool false, .slice none 0 0, .slice none 0 0, .bool false, .slice none 0 0, .slice none 0 0].toArray 56))) (p1.out.ext (Ext.alloc wv (.cells [.bool false, .slice none 0 0, .slice none 0 0, .bool false, .slice none 0 0, .slice none 0 0].toArray 56))) (r6.out.ext (Ext.alloc wv (.cells [.bool false, .slice none 0 0, .slice none 0 0, .bool false, .slice none 0 0, .slice none 0 0].toArray 56))) s6 (Rt.new wv [.bool false, .slice none 0 0, .slice none 0 0, .bool false, .slice none 0 0, .slice none 0 0] 56) (Below.size XE) (Nat.ne_of_lt r6.out.lt)) (by kernel_rfl) (by kernel_rfl) rfl rfl
      · skip
        go_simp
        refine hK.out _ _ (KP.out _ (Ext.trans XE (Ext.alloc wv (.cells [.bool false, .slice none 0 0, .slice none 0 0].toArray 28)))) (fun _ => ?_)
        clear hK K
        try simp only [Act.put, List.getElem_toArray, List.getElem_cons_succ, List.getElem_cons_zero, List.setIfInBounds_toArray, List.set_cons_zero, List.set_cons_succ]
        exact wpAnyH_to (L1_6_8 _ v1 B6 wv.heap.size (Ext.trans XE (Ext.alloc wv (.cells [.bool false, .slice none 0 0, .slice none 0 0].toArray 28))) (p1.out.ext (Ext.alloc wv (.cells [.bool false, .slice none 0 0, .slice none 0 0].toArray 28))) (r6.out.ext (Ext.alloc wv (.cells [.bool false, .slice none 0 0, .slice none 0 0].toArray 28))) s6 (Rt.new wv [.bool false, .slice none 0 0, .slice none 0 0] 28) (Below.size XE) (Nat.ne_of_lt r6.out.lt)) (by kernel_rfl) (by kernel_rfl) rfl rfl
    have L1_7 : ∀ (wv : World) (v1 : Value) (B7 : Nat), Hid (Ext w1 wv) → Hid (OwnD 148 w1.heap.size wv v1 a b) → Hid (Rt wv B7 6 56) → Hid (w1.heap.size ≤ B7) → wpAnyH Try.prog .any O Q9 SS 7 #[true, true, true, false, true, false, false, true, false, false, false, false] ⟨#[.agg #[u0, u1, u2, u3, u4, u5], .agg #[q0, q1, q2, q3, q4, q5], .agg #[.bool s2, t1, t2], .pointer (some ⟨w.heap.size, 0, none⟩), .pointer (some ⟨w.heap.size + 1, 0, none⟩), .pointer (some ⟨w.heap.size + 1 + 1, 0, none⟩), .bool false, undef, .pointer (some ⟨B7, 0, none⟩), undef, undef, undef, .agg #[u0, u1, u2, u3, u4, u5], v1, .agg #[q0, q1, q2, q3, q4, q5], undef, .agg #[.bool s2, t1, t2], undef, undef, undef, undef, undef, undef, undef, undef, undef, undef, undef, undef, undef, undef, undef, undef, undef, undef, undef, undef, undef, undef, undef, undef, undef, undef, undef, undef, undef, undef, undef, undef, undef, undef, undef, undef, undef, undef, undef, undef, undef, undef, undef, undef, undef, undef, undef, undef, undef, undef, undef, undef, undef, undef, undef, undef, undef, undef, undef, undef, undef, undef, undef, undef, undef, undef, undef, undef, undef, undef, undef, undef, undef, undef, undef, undef, undef, undef, undef, undef], []⟩ wv := by
      intro wv v1 B7 hX p1 r7 s7
      have hO1 := hO.out
      have hQ1 := hQ.out
      subst hO1
      subst hQ1
      have XE := hX.out
      refine wpAnyH_ready (rs := [3, 6, 8]) (by kernel_rfl) (by simp) ?_
      refine AllReadyH.cons (o := _) rfl (fun K hK => ?_) (AllReadyH.cons (o := _) rfl (fun K hK => ?_) (AllReadyH.cons (o := _) rfl (fun K hK => ?_) AllReadyH.nil))
      · skip
        go_simp
        go_at_call 31
        refine (HB.out _ _ (HV1.out.ext (Ext.trans b1 XE))).mono ?_
        rintro e wn ⟨vn, rfl, bn, on⟩
        go_wp2_with fail
        refine hK.out _ _ (KP.out _ (Ext.trans XE bn)) (fun _ => ?_)
        clear hK K
        try simp only [Act.put, List.getElem_toArray, List.getElem_cons_succ, List.getElem_cons_zero, List.setIfInBounds_toArray, List.set_cons_zero, List.set_cons_succ]
        exact wpAnyH_to (L2_7 wn v1 vn B7 (Ext.trans XE bn) (p1.out.ext bn) (on.mono (Below.size XE)) (r7.out.ext bn) s7) (by kernel_rfl) (by kernel_rfl) rfl rfl
      · skip
        go_simp
        refine hK.out _ _ (KP.out _ (Ext.trans XE (Ext.alloc wv (.cells [.bool false, .slice none 0 0, .slice none 0 0, .bool false, .slice none 0 0, .slice none 0 0].toArray 56)))) (fun _ => ?_)
        clear hK K
        try simp only [Act.put, List.getElem_toArray, List.getElem_cons_succ, List.getElem_cons_zero, List.setIfInBounds_toArray, List.set_cons_zero, List.set_cons_succ]
        exact wpAnyH_to (L1_6_7 _ v1 wv.heap.size B7 (Ext.trans XE (Ext.alloc wv (.cells [.bool false, .slice none 0 0, .slice none 0 0, .bool false, .slice none 0 0, .slice none 0 0].toArray 56))) (p1.out.ext (Ext.alloc wv (.cells [.bool false, .slice none 0 0, .slice none 0 0, .bool false, .slice none 0 0, .slice none 0 0].toArray 56))) (Rt.new wv [.bool false, .slice none 0 0, .slice none 0 0, .bool false, .slice none 0 0, .slice none 0 0] 56) (Below.size XE) (r7.out.ext (Ext.alloc wv (.cells [.bool false, .slice none 0 0, .slice none 0 0, .bool false, .slice none 0 0, .slice none 0 0].toArray 56))) s7 (Nat.ne_of_gt r7.out.lt)) (by kernel_rfl) (by kernel_rfl) rfl rfl
      · skip
        go_simp
        refine hK.out _ _ (KP.out _ (Ext.trans XE (Ext.alloc wv (.cells [.bool false, .slice none 0 0, .slice none 0 0].toArray 28)))) (fun _ => ?_)
        clear hK K
        try simp only [Act.put, List.getElem_toArray, List.getElem_cons_succ, List.getElem_cons_zero, List.setIfInBounds_toArray, List.set_cons_zero, List.set_cons_succ]
        exact wpAnyH_to (L1_7_8 _ v1 B7 wv.heap.size (Ext.trans XE (Ext.alloc wv (.cells [.bool false, .slice none 0 0, .slice none 0 0].toArray 28))) (p1.out.ext (Ext.alloc wv (.cells [.bool false, .slice none 0 0, .slice none 0 0].toArray 28))) (r7.out.ext (Ext.alloc wv (.cells [.bool false, .slice none 0 0, .slice none 0 0].toArray 28))) s7 (Rt.new wv [.bool false, .slice none 0 0, .slice none 0 0] 28) (Below.size XE) (Nat.ne_of_lt r7.out.lt)) (by kernel_rfl) (by kernel_rfl) rfl rfl
    have L1_8 : ∀ (wv : World) (v1 : Value) (B8 : Nat), Hid (Ext w1 wv) → Hid (OwnD 148 w1.heap.size wv v1 a b) → Hid (Rt wv B8 3 28) → Hid (w1.heap.size ≤ B8) → wpAnyH Try.prog .any O Q9 SS 7 #[true, true, true, false, true, false, false, false, true, false, false, false] ⟨#[.agg #[u0, u1, u2, u3, u4, u5], .agg #[q0, q1, q2, q3, q4, q5], .agg #[.bool s2, t1, t2], .pointer (some ⟨w.heap.size, 0, none⟩), .pointer (some ⟨w.heap.size + 1, 0, none⟩), .pointer (some ⟨w.heap.size + 1 + 1, 0, none⟩), .bool false, undef, undef, .pointer (some ⟨B8, 0, none⟩), undef, undef, .agg #[u0, u1, u2, u3, u4, u5], v1, .agg #[q0, q1, q2, q3, q4, q5], undef, .agg #[.bool s2, t1, t2], undef, undef, undef, undef, undef, undef, undef, undef, undef, undef, undef, undef, undef, undef, undef, undef, undef, undef, undef, undef, undef, undef, undef, undef, undef, undef, undef, undef, undef, undef, undef, undef, undef, undef, undef, undef, undef, undef, undef, undef, undef, undef, undef, undef, undef, undef, undef, undef, undef, undef, undef, undef, undef, undef, undef, undef, undef, undef, undef, undef, undef, undef, undef, undef, undef, undef, undef, undef, undef, undef, undef, undef, undef, undef, undef, undef, undef, undef, undef, undef], []⟩ wv := by
      intro wv v1 B8 hX p1 r8 s8
      have hO1 := hO.out
      have hQ1 := hQ.out
      subst hO1
      subst hQ1
      have XE := hX.out
      refine wpAnyH_ready (rs := [3, 6, 7]) (by kernel_rfl) (by simp) ?_
      refine AllReadyH.cons (o := _) rfl (fun K hK => ?_) (AllReadyH.cons (o := _) rfl (fun K hK => ?_) (AllReadyH.cons (o := _) rfl (fun K hK => ?_) AllReadyH.nil))
      · skip
        go_simp
        go_at_call 31
        refine (HB.out _ _ (HV1.out.ext (Ext.trans b1 XE))).mono ?_
        rintro e wn ⟨vn, rfl, bn, on⟩
        go_wp2_with fail
        refine hK.out _ _ (KP.out _ (Ext.trans XE bn)) (fun _ => ?_)
        clear hK K
        try simp only [Act.put, List.getElem_toArray, List.getElem_cons_succ, List.getElem_cons_zero, List.setIfInBounds_toArray, List.set_cons_zero, List.set_cons_succ]
        exact wpAnyH_to (L2_8 wn v1 vn B8 (Ext.trans XE bn) (p1.out.ext bn) (on.mono (Below.size XE)) (r8.out.ext bn) s8) (by kernel_rfl) (by kernel_rfl) rfl rfl
      · skip
        go_simp
        refine hK.out _ _ (KP.out _ (Ext.trans XE (Ext.alloc wv (.cells [.bool false, .slice none 0 0, .slice none 0 0, .bool false, .slice none 0 0, .slice none 0 0].toArray 56)))) (fun _ => ?_)
        clear hK K
        try simp only [Act.put, List.getElem_toArray, List.getElem_cons_succ, List.getElem_cons_zero, List.setIfInBounds_toArray, List.set_cons_zero, List.set_cons_succ]
        exact wpAnyH_to (L1_6_8 _ v1 wv.heap.size B8 (Ext.trans XE (Ext.alloc wv (.cells [.bool false, .slice none 0 0, .slice none 0 0, .bool false, .slice none 0 0, .slice none 0 0].toArray 56))) (p1.out.ext (Ext.alloc wv (.cells [.bool false, .slice none 0 0, .slice none 0 0, .bool false, .slice none 0 0, .slice none 0 0].toArray 56))) (Rt.new wv [.bool false, .slice none 0 0, .slice none 0 0, .bool false, .slice none 0 0, .slice none 0 0] 56) (Below.size XE) (r8.out.ext (Ext.alloc wv (.cells [.bool false, .slice none 0 0, .slice none 0 0, .bool false, .slice none 0 0, .slice none 0 0].toArray 56))) s8 (Nat.ne_of_gt r8.out.lt)) (by kernel_rfl) (by kernel_rfl) rfl rfl
      · skip
        go_simp
        refine hK.out _ _ (KP.out _ (Ext.trans XE (Ext.alloc wv (.cells [.bool false, .slice none 0 0, .slice none 0 0, .bool false, .slice none 0 0, .slice none 0 0].toArray 56)))) (fun _ => ?_)
        clear hK K
        try simp only [Act.put, List.getElem_toArray, List.getElem_cons_succ, List.getElem_cons_zero, List.setIfInBounds_toArray, List.set_cons_zero, List.set_cons_succ]
        exact wpAnyH_to (L1_7_8 _ v1 wv.heap.size B8 (Ext.trans XE (Ext.alloc wv (.cells [.bool false, .slice none 0 0, .slice none 0 0, .bool false, .slice none 0 0, .slice none 0 0].toArray 56))) (p1.out.ext (Ext.alloc wv (.cells [.bool false, .slice none 0 0, .slice none 0 0, .bool false, .slice none 0 0, .slice none 0 0].toArray 56))) (Rt.new wv [.bool false, .slice none 0 0, .slice none 0 0, .bool false, .slice none 0 0, .slice none 0 0] 56) (Below.size XE) (r8.out.ext (Ext.alloc wv (.cells [.bool false, .slice none 0 0, .slice none 0 0, .bool false, .slice none 0 0, .slice none 0 0].toArray 56))) s8 (Nat.ne_of_gt r8.out.lt)) (by kernel_rfl) (by kernel_rfl) rfl rfl
    have L2_ : ∀ (wv : World) (v1 v3 : Value), Hid (Ext w1 wv) → Hid (OwnD 148 w1.heap.size wv v1 a b) → Hid (OwnD 148 w1.heap.size wv v3 c d) → wpAnyH Try.prog .any O Q9 SS 7 #[true, true, true, true, true, false, false, false, false, false, false, false] ⟨#[.agg #[u0, u1, u2, u3, u4, u5], .agg #[q0, q1, q2, q3, q4, q5], .agg #[.bool s2, t1, t2], .pointer (some ⟨w.heap.size, 0, none⟩), .pointer (some ⟨w.heap.size + 1, 0, none⟩), .pointer (some ⟨w.heap.size + 1 + 1, 0, none⟩), .bool false, undef, undef, undef, undef, undef, .agg #[u0, u1, u2, u3, u4, u5], v1, .agg #[q0, q1, q2, q3, q4, q5], v3, .agg #[.bool s2, t1, t2], undef, undef, undef, undef, undef, undef, undef, undef, undef, undef, undef, undef, undef, undef, undef, undef, undef, undef, undef, undef, undef, undef, undef, undef, undef, undef, undef, undef, undef, undef, undef, undef, undef, undef, undef, undef, undef, undef, undef, undef, undef, undef, undef, undef, undef, undef, undef, undef, undef, undef, undef, undef, undef, undef, undef, undef, undef, undef, undef, undef, undef, undef, undef, undef, undef, undef, undef, undef, undef, undef, undef, undef, undef, undef, undef, undef, undef, undef, undef, undef], []⟩ wv := by
      intro wv v1 v3 hX p1 p3
      have hO1 := hO.out
      have hQ1 := hQ.out
      subst hO1
      subst hQ1
      have XE := hX.out
      refine wpAnyH_ready (rs := [5, 6, 7, 8]) (by kernel_rfl) (by simp) ?_
      refine AllReadyH.cons (o := _) rfl (fun K hK => ?_) (AllReadyH.cons (o := _) rfl (fun K hK => ?_) (AllReadyH.cons (o := _) rfl (fun K hK => ?_) (AllReadyH.cons (o := _) rfl (fun K hK => ?_) AllReadyH.nil)))
      · skip
        go_simp
        go_at_call 32
        refine (HN.out _ _ (HV2.out.ext (Ext.trans b1 XE))).mono ?_
        rintro e wn ⟨vn, rfl, bn, on⟩
        go_wp2_with fail
        refine hK.out _ _ (KP.out _ (Ext.trans XE bn)) (fun _ => ?_)
        clear hK K
        try simp only [Act.put, List.getElem_toArray, List.getElem_cons_succ, List.getElem_cons_zero, List.setIfInBounds_toArray, List.set_cons_zero, List.set_cons_succ]
        exact wpAnyH_to (L3_ wn v1 v3 vn (Ext.trans XE bn) (p1.out.ext bn) (p3.out.ext bn) (on.mono (Below.size XE))) (by kernel_rfl) (by kernel_rfl) rfl rfl
      · skip
        go_simp
        refine hK.out _ _ (KP.out _ (Ext.trans XE (Ext.alloc wv (.cells [.bool false, .slice none 0 0, .slice none 0 0, .bool false, .slice none 0 0, .slice none 0 0].toArray 56)))) (fun _ => ?_)
        clear hK K
        try simp only [Act.put, List.getElem_toArray, List.getElem_cons_succ, List.getElem_cons_zero, List.setIfInBounds_toArray, List.set_cons_zero, List.set_cons_succ]
        exact wpAnyH_to (L2_6 _ v1 v3 wv.heap.size (Ext.trans XE (Ext.alloc wv (.cells [.bool false, .slice none 0 0, .slice none 0 0, .bool false, .slice none 0 0, .slice none 0 0].toArray 56))) (p1.out.ext (Ext.alloc wv (.cells [.bool false, .slice none 0 0, .slice none 0 0, .bool false, .slice none 0 0, .slice none 0 0].toArray 56))) (p3.out.ext (Ext.alloc wv (.cells [.bool false, .slice none 0 0, .slice none 0 0, .bool false, .slice none 0 0, .slice none 0 0].toArray 56))) (Rt.new wv [.bool false, .slice none 0 0, .slice none 0 0, .bool false, .slice none 0 0, .slice none 0 0] 56) (Below.size XE)) (by kernel_rfl) (by kernel_rfl) rfl rfl
      · skip
        go_simp
        refine hK.out _ _ (KP.out _ (Ext.trans XE (Ext.alloc wv (.cells [.bool false, .slice none 0 0, .slice none 0 0, .bool false, .slice none 0 0, .slice none 0 0].toArray 56)))) (fun _ => ?_)
        clear hK K
        try simp only [Act.put, List.getElem_toArray, List.getElem_cons_succ, List.getElem_cons_zero, List.setIfInBounds_toArray, List.set_cons_zero, List.set_cons_succ]
        exact wpAnyH_to (L2_7 _ v1 v3 wv.heap.size (Ext.trans XE (Ext.alloc wv (.cells [.bool false, .slice none 0 0, .slice none 0 0, .bool false, .slice none 0 0, .slice none 0 0].toArray 56))) (p1.out.ext (Ext.alloc wv (.cells [.bool false, .slice none 0 0, .slice none 0 0, .bool false, .slice none 0 0, .slice none 0 0].toArray 56))) (p3.out.ext (Ext.alloc wv (.cells [.bool false, .slice none 0 0, .slice none 0 0, .bool false, .slice none 0 0, .slice none 0 0].toArray 56))) (Rt.new wv [.bool false, .slice none 0 0, .slice none 0 0, .bool false, .slice none 0 0, .slice none 0 0] 56) (Below.size XE)) (by kernel_rfl) (by kernel_rfl) rfl rfl
      · skip
        go_simp
        refine hK.out _ _ (KP.out _ (Ext.trans XE (Ext.alloc wv (.cells [.bool false, .slice none 0 0, .slice none 0 0].toArray 28)))) (fun _ => ?_)
        clear hK K
        try simp only [Act.put, List.getElem_toArray, List.getElem_cons_succ, List.getElem_cons_zero, List.setIfInBounds_toArray, List.set_cons_zero, List.set_cons_succ]
        exact wpAnyH_to (L2_8 _ v1 v3 wv.heap.size (Ext.trans XE (Ext.alloc wv (.cells [.bool false, .slice none 0 0, .slice none 0 0].toArray 28))) (p1.out.ext (Ext.alloc wv (.cells [.bool false, .slice none 0 0, .slice none 0 0].toArray 28))) (p3.out.ext (Ext.alloc wv (.cells [.bool false, .slice none 0 0, .slice none 0 0].toArray 28))) (Rt.new wv [.bool false, .slice none 0 0, .slice none 0 0] 28) (Below.size XE)) (by kernel_rfl) (by kernel_rfl) rfl rfl
    have L0_6 : ∀ (wv : World) (B6 : Nat), Hid (Ext w1 wv) → Hid (Rt wv B6 6 56) → Hid (w1.heap.size ≤ B6) → wpAnyH Try.prog .any O Q9 SS 8 #[true, false, true, false, true, false, true, false, false, false, false, false] ⟨#[.agg #[u0, u1, u2, u3, u4, u5], .agg #[q0, q1, q2, q3, q4, q5], .agg #[.bool s2, t1, t2], .pointer (some ⟨w.heap.size, 0, none⟩), .pointer (some ⟨w.heap.size + 1, 0, none⟩), .pointer (some ⟨w.heap.size + 1 + 1, 0, none⟩), .bool false, .pointer (some ⟨B6, 0, none⟩), undef, undef, undef, undef, .agg #[u0, u1, u2, u3, u4, u5], undef, .agg #[q0, q1, q2, q3, q4, q5], undef, .agg #[.bool s2, t1, t2], undef, undef, undef, undef, undef, undef, undef, undef, undef, undef, undef, undef, undef, undef, undef, undef, undef, undef, undef, undef, undef, undef, undef, undef, undef, undef, undef, undef, undef, undef, undef, undef, undef, undef, undef, undef, undef, undef, undef, undef, undef, undef, undef, undef, undef, undef, undef, undef, undef, undef, undef, undef, undef, undef, undef, undef, undef, undef, undef, undef, undef, undef, undef, undef, undef, undef, undef, undef, undef, undef, undef, undef, undef, undef, undef, undef, undef, undef, undef, undef], []⟩ wv := by
      intro wv B6 hX r6 s6
      have hO1 := hO.out
      have hQ1 := hQ.out
      subst hO1
      subst hQ1
      have XE := hX.out
      refine wpAnyH_ready (rs := [1, 7, 8]) (by kernel_rfl) (by simp) ?_
      refine AllReadyH.cons (o := _) rfl (fun K hK => ?_) (AllReadyH.cons (o := _) rfl (fun K hK => ?_) (AllReadyH.cons (o := _) rfl (fun K hK => ?_) AllReadyH.nil))
      · skip
        go_simp
        go_at_call 31
        refine (HA.out _ _ (HV0.out.ext (Ext.trans b1 XE))).mono ?_
        rintro e wn ⟨vn, rfl, bn, on⟩
        go_wp2_with fail
        refine hK.out _ _ (KP.out _ (Ext.trans XE bn)) (fun _ => ?_)
        clear hK K
        try simp only [Act.put, List.getElem_toArray, List.getElem_cons_succ, List.getElem_cons_zero, List.setIfInBounds_toArray, List.set_cons_zero, List.set_cons_succ]
        exact wpAnyH_to (L1_6 wn vn B6 (Ext.trans XE bn) (on.mono (Below.size XE)) (r6.out.ext bn) s6) (by kernel_rfl) (by kernel_rfl) rfl rfl
      · skip
        go_simp
        refine hK.out _ _ (KP.out _ (Ext.trans XE (Ext.alloc wv (.cells [.bool false, .slice none 0 0, .slice none 0 0, .bool false, .slice none 0 0, .slice none 0 0].toArray 56)))) (fun _ => ?_)
        clear hK K
        try simp only [Act.put, List.getElem_toArray, List.getElem_cons_succ, List.getElem_cons_zero, List.setIfInBounds_toArray, List.set_cons_zero, List.set_cons_succ]
        exact wpAnyH_to (L0_6_7 _ B6 wv.heap.size (Ext.trans XE (Ext.alloc wv (.cells [.bool false, .slice none 0 0, .slice none 0 0, .bool false, .slice none 0 0, .slice none 0 0].toArray 56))) (r6.out.ext (Ext.alloc wv (.cells [.bool false, .slice none 0 0, .slice none 0 0, .bool false, .slice none 0 0, .slice none 0 0].toArray 56))) s6 (Rt.new wv [.bool false, .slice none 0 0, .slice none 0 0, .bool false, .slice none 0 0, .slice none 0 0] 56) (Below.size XE) (Nat.ne_of_lt r6.out.lt)) (by kernel_rfl) (by kernel_rfl) rfl rfl
      · skip
        go_simp
        refine hK.out _ _ (KP.out _ (Ext.trans XE (Ext.alloc wv (.cells [.bool false, .slice none 0 0, .slice none 0 0].toArray 28)))) (fun _ => ?_)
        clear hK K
        try simp only [Act.put, List.getElem_toArray, List.getElem_cons_succ, List.getElem_cons_zero, List.setIfInBounds_toArray, List.set_cons_zero, List.set_cons_succ]
        exact wpAnyH_to (L0_6_8 _ B6 wv.heap.size (Ext.trans XE (Ext.alloc wv (.cells [.bool false, .slice none 0 0, .slice none 0 0].toArray 28))) (r6.out.ext (Ext.alloc wv (.cells [.bool false, .slice none 0 0, .slice none 0 0].toArray 28))) s6 (Rt.new wv [.bool false, .slice none 0 0, .slice none 0 0] 28) (Below.size XE) (Nat.ne_of_lt r6.out.lt)) (by kernel_rfl) (by kernel_rfl) rfl rfl
    have L0_7 : ∀ (wv : World) (B7 : Nat), Hid (Ext w1 wv) → Hid (Rt wv B7 6 56) → Hid (w1.heap.size ≤ B7) → wpAnyH Try.prog .any O Q9 SS 8 #[true, false, true, false, true, false, false, true, false, false, false, false] ⟨#[.agg #[u0, u1, u2, u3, u4, u5], .agg #[q0, q1, q2, q3, q4, q5], .agg #[.bool s2, t1, t2], .pointer (some ⟨w.heap.size, 0, none⟩), .pointer (some ⟨w.heap.size + 1, 0, none⟩), .pointer (some ⟨w.heap.size + 1 + 1, 0, none⟩), .bool false, undef, .pointer (some ⟨B7, 0, none⟩), undef, undef, undef, .agg #[u0, u1, u2, u3, u4, u5], undef, .agg #[q0, q1, q2, q3, q4, q5], undef, .agg #[.bool s2, t1, t2], undef, undef, undef, undef, undef, undef, undef, undef, undef, undef, undef, undef, undef, undef, undef, undef, undef, undef, undef, undef, undef, undef, undef, undef, undef, undef, undef, undef, undef, undef, undef, undef, undef, undef, undef, undef, undef, undef, undef, undef, undef, undef, undef, undef, undef, undef, undef, undef, undef, undef, undef, undef, undef, undef, undef, undef, undef, undef, undef, undef, undef, undef, undef, undef, undef, undef, undef, undef, undef, undef, undef, undef, undef, undef, undef, undef, undef, undef, undef, undef], []⟩ wv := by
      intro wv B7 hX r7 s7
      have hO1 := hO.out
      have hQ1 := hQ.out
      subst hO1
      subst hQ1
      have XE := hX.out
      refine wpAnyH_ready (rs := [1, 6, 8]) (by kernel_rfl) (by simp) ?_
      refine AllReadyH.cons (o := _) rfl (fun K hK => ?_) (AllReadyH.cons (o := _) rfl (fun K hK => ?_) (AllReadyH.cons (o := _) rfl (fun K hK => ?_) AllReadyH.nil))
      · skip
        go_simp
        go_at_call 31
        refine (HA.out _ _ (HV0.out.ext (Ext.trans b1 XE))).mono ?_
        rintro e wn ⟨vn, rfl, bn, on⟩
        go_wp2_with fail
        refine hK.out _ _ (KP.out _ (Ext.trans XE bn)) (fun _ => ?_)
        clear hK K
        try simp only [Act.put, List.getElem_toArray, List.getElem_cons_succ, List.getElem_cons_zero, List.setIfInBounds_toArray, List.set_cons_zero, List.set_cons_succ]
        exact wpAnyH_to (L1_7 wn vn B7 (Ext.trans XE bn) (on.mono (Below.size XE)) (r7.out.ext bn) s7) (by kernel_rfl) (by kernel_rfl) rfl rfl
      · skip
        go_simp
        refine hK.out _ _ (KP.out _ (Ext.trans XE (Ext.alloc wv (.cells [.bool false, .slice none 0 0, .slice none 0 0, .bool false, .slice none 0 0, .slice none 0 0].toArray 56)))) (fun _ => ?_)
        clear hK K
        try simp only [Act.put, List.getElem_toArray, List.getElem_cons_succ, List.getElem_cons_zero, List.setIfInBounds_toArray, List.set_cons_zero, List.set_cons_succ]
        exact wpAnyH_to (L0_6_7 _ wv.heap.size B7 (Ext.trans XE (Ext.alloc wv (.cells [.bool false, .slice none 0 0, .slice none 0 0, .bool false, .slice none 0 0, .slice none 0 0].toArray 56))) (Rt.new wv [.bool false, .slice none 0 0, .slice none 0 0, .bool false, .slice none 0 0, .slice none 0 0] 56) (Below.size XE) (r7.out.ext (Ext.alloc wv (.cells [.bool false, .slice none 0 0, .slice none 0 0, .bool false, .slice none 0 0, .slice none 0 0].toArray 56))) s7 (Nat.ne_of_gt r7.out.lt)) (by kernel_rfl) (by kernel_rfl) rfl rfl
      · skip
        go_simp
        refine hK.out _ _ (KP.out _ (Ext.trans XE (Ext.alloc wv (.cells [.bool false, .slice none 0 0, .slice none 0 0].toArray 28)))) (fun _ => ?_)
        clear hK K
        try simp only [Act.put, List.getElem_toArray, List.getElem_cons_succ, List.getElem_cons_zero, List.setIfInBounds_toArray, List.set_cons_zero, List.set_cons_succ]
        exact wpAnyH_to (L0_7_8 _ B7 wv.heap.size (Ext.trans XE (Ext.alloc wv (.cells [.bool false, .slice none 0 0, .slice none 0 0].toArray 28))) (r7.out.ext (Ext.alloc wv (.cells [.bool false, .slice none 0 0, .slice none 0 0].toArray 28))) s7 (Rt.new wv [.bool false, .slice none 0 0, .slice none 0 0] 28) (Below.size XE) (Nat.ne_of_lt r7.out.lt)) (by kernel_rfl) (by kernel_rfl) rfl rfl
    have L0_8 : ∀ (wv : World) (B8 : Nat), Hid (Ext w1 wv) → Hid (Rt wv B8 3 28) → Hid (w1.heap.size ≤ B8) → wpAnyH Try.prog .any O Q9 SS 8 #[true, false, true, false, true, false, false, false, true, false, false, false] ⟨#[.agg #[u0, u1, u2, u3, u4, u5], .agg #[q0, q1, q2, q3, q4, q5], .agg #[.bool s2, t1, t2], .pointer (some ⟨w.heap.size, 0, none⟩), .pointer (some ⟨w.heap.size + 1, 0, none⟩), .pointer (some ⟨w.heap.size + 1 + 1, 0, none⟩), .bool false, undef, undef, .pointer (some ⟨B8, 0, none⟩), undef, undef, .agg #[u0, u1, u2, u3, u4, u5], undef, .agg #[q0, q1, q2, q3, q4, q5], undef, .agg #[.bool s2, t1, t2], undef, undef, undef, undef, undef, undef, undef, undef, undef, undef, undef, undef, undef, undef, undef, undef, undef, undef, undef, undef, undef, undef, undef, undef, undef, undef, undef, undef, undef, undef, undef, undef, undef, undef, undef, undef, undef, undef, undef, undef, undef, undef, undef, undef, undef, undef, undef, undef, undef, undef, undef, undef, undef, undef, undef, undef, undef, undef, undef, undef, undef, undef, undef, undef, undef, undef, undef, undef, undef, undef, undef, undef, undef, undef, undef, undef, undef, undef, undef, undef], []⟩ wv := by
      intro wv B8 hX r8 s8
      have hO1 := hO.out
      have hQ1 := hQ.out
      subst hO1
      subst hQ1
      have XE := hX.out
      refine wpAnyH_ready (rs := [1, 6, 7]) (by kernel_rfl) (by simp) ?_
      refine AllReadyH.cons (o := _) rfl (fun K hK => ?_) (AllReadyH.cons (o := _) rfl (fun K hK => ?_) (AllReadyH.cons (o := _) rfl (fun K hK => ?_) AllReadyH.nil))
      · skip
        go_simp
        go_at_call 31
        refine (HA.out _ _ (HV0.out.ext (Ext.trans b1 XE))).mono ?_
        rintro e wn ⟨vn, rfl, bn, on⟩
        go_wp2_with fail
        refine hK.out _ _ (KP.out _ (Ext.trans XE bn)) (fun _ => ?_)
        clear hK K
        try simp only [Act.put, List.getElem_toArray, List.getElem_cons_succ, List.getElem_cons_zero, List.setIfInBounds_toArray, List.set_cons_zero, List.set_cons_succ]
        exact wpAnyH_to (L1_8 wn vn B8 (Ext.trans XE bn) (on.mono (Below.size XE)) (r8.out.ext bn) s8) (by kernel_rfl) (by kernel_rfl) rfl rfl
      · skip
        go_simp
        refine hK.out _ _ (KP.out _ (Ext.trans XE (Ext.alloc wv (.cells [.bool false, .slice none 0 0, .slice none 0 0, .bool false, .slice none 0 0, .slice none 0 0].toArray 56)))) (fun _ => ?_)
        clear hK K
        try simp only [Act.put, List.getElem_toArray, List.getElem_cons_succ, List.getElem_cons_zero, List.setIfInBounds_toArray, List.set_cons_zero, List.set_cons_succ]
        exact wpAnyH_to (L0_6_8 _ wv.heap.size B8 (Ext.trans XE (Ext.alloc wv (.cells [.bool false, .slice none 0 0, .slice none 0 0, .bool false, .slice none 0 0, .slice none 0 0].toArray 56))) (Rt.new wv [.bool false, .slice none 0 0, .slice none 0 0, .bool false, .slice none 0 0, .slice none 0 0] 56) (Below.size XE) (r8.out.ext (Ext.alloc wv (.cells [.bool false, .slice none 0 0, .slice none 0 0, .bool false, .slice none 0 0, .slice none 0 0].toArray 56))) s8 (Nat.ne_of_gt r8.out.lt)) (by kernel_rfl) (by kernel_rfl) rfl rfl
      · skip
        go_simp
        refine hK.out _ _ (KP.out _ (Ext.trans XE (Ext.alloc wv (.cells [.bool false, .slice none 0 0, .slice none 0 0, .bool false, .slice none 0 0, .slice none 0 0].toArray 56)))) (fun _ => ?_)
        clear hK K
        try simp only [Act.put, List.getElem_toArray, List.getElem_cons_succ, List.getElem_cons_zero, List.setIfInBounds_toArray, List.set_cons_zero, List.set_cons_succ]
        exact wpAnyH_to (L0_7_8 _ wv.heap.size B8 (Ext.trans XE (Ext.alloc wv (.cells [.bool false, .slice none 0 0, .slice none 0 0, .bool false, .slice none 0 0, .slice none 0 0].toArray 56))) (Rt.new wv [.bool false, .slice none 0 0, .slice none 0 0, .bool false, .slice none 0 0, .slice none 0 0] 56) (Below.size XE) (r8.out.ext (Ext.alloc wv (.cells [.bool false, .slice none 0 0, .slice none 0 0, .bool false, .slice none 0 0, .slice none 0 0].toArray 56))) s8 (Nat.ne_of_gt r8.out.lt)) (by kernel_rfl) (by kernel_rfl) rfl rfl
    have L1_ : ∀ (wv : World) (v1 : Value), Hid (Ext w1 wv) → Hid (OwnD 148 w1.heap.size wv v1 a b) → wpAnyH Try.prog .any O Q9 SS 8 #[true, true, true, false, true, false, false, false, false, false, false, false] ⟨#[.agg #[u0, u1, u2, u3, u4, u5], .agg #[q0, q1, q2, q3, q4, q5], .agg #[.bool s2, t1, t2], .pointer (some ⟨w.heap.size, 0, none⟩), .pointer (some ⟨w.heap.size + 1, 0, none⟩), .pointer (some ⟨w.heap.size + 1 + 1, 0, none⟩), .bool false, undef, undef, undef, undef, undef, .agg #[u0, u1, u2, u3, u4, u5], v1, .agg #[q0, q1, q2, q3, q4, q5], undef, .agg #[.bool s2, t1, t2], undef, undef, undef, undef, undef, undef, undef, undef, undef, undef, undef, undef, undef, undef, undef, undef, undef, undef, undef, undef, undef, undef, undef, undef, undef, undef, undef, undef, undef, undef, undef, undef, undef, undef, undef, undef, undef, undef, undef, undef, undef, undef, undef, undef, undef, undef, undef, undef, undef, undef, undef, undef, undef, undef, undef, undef, undef, undef, undef, undef, undef, undef, undef, undef, undef, undef, undef, undef, undef, undef, undef, undef, undef, undef, undef, undef, undef, undef, undef, undef], []⟩ wv := by
      intro wv v1 hX p1
      have hO1 := hO.out
      have hQ1 := hQ.out
      subst hO1
      subst hQ1
      have XE := hX.out
      refine wpAnyH_ready (rs := [3, 6, 7, 8]) (by kernel_rfl) (by simp) ?_
      refine AllReadyH.cons (o := _) rfl (fun K hK => ?_) (AllReadyH.cons (o := _) rfl (fun K hK => ?_) (AllReadyH.cons (o := _) rfl (fun K hK => ?_) (AllReadyH.cons (o := _) rfl (fun K hK => ?_) AllReadyH.nil)))
      · skip
        go_simp
        go_at_call 31
        refine (HB.out _ _ (HV1.out.ext (Ext.trans b1 XE))).mono ?_
        rintro e wn ⟨vn, rfl, bn, on⟩
        go_wp2_with fail
        refine hK.out _ _ (KP.out _ (Ext.trans XE bn)) (fun _ => ?_)
        clear hK K
        try simp only [Act.put, List.getElem_toArray, List.getElem_cons_succ, List.getElem_cons_zero, List.setIfInBounds_toArray, List.set_cons_zero, List.set_cons_succ]
        exact wpAnyH_to (L2_ wn v1 vn (Ext.trans XE bn) (p1.out.ext bn) (on.mono (Below.size XE))) (by kernel_rfl) (by kernel_rfl) rfl rfl
      · skip
        go_simp
        refine hK.out _ _ (KP.out _ (Ext.trans XE (Ext.alloc wv (.cells [.bool false, .slice none 0 0, .slice none 0 0, .bool false, .slice none 0 0, .slice none 0 0].toArray 56)))) (fun _ => ?_)
        clear hK K
        try simp only [Act.put, List.getElem_toArray, List.getElem_cons_succ, List.getElem_cons_zero, List.setIfInBounds_toArray, List.set_cons_zero, List.set_cons_succ]
        exact wpAnyH_to (L1_6 _ v1 wv.heap.size (Ext.trans XE (Ext.alloc wv (.cells [.bool false, .slice none 0 0, .slice none 0 0, .bool false, .slice none 0 0, .slice none 0 0].toArray 56))) (p1.out.ext (Ext.alloc wv (.cells [.bool false, .slice none 0 0, .slice none 0 0, .bool false, .slice none 0 0, .slice none 0 0].toArray 56))) (Rt.new wv [.bool false, .slice none 0 0, .slice none 0 0, .bool false, .slice none 0 0, .slice none 0 0] 56) (Below.size XE)) (by kernel_rfl) (by kernel_rfl) rfl rfl
      · skip
        go_simp
        refine hK.out _ _ (KP.out _ (Ext.trans XE (Ext.alloc wv (.cells [.bool false, .slice none 0 0, .slice none 0 0, .bool false, .slice none 0 0, .slice none 0 0].toArray 56)))) (fun _ => ?_)
        clear hK K
        try simp only [Act.put, List.getElem_toArray, List.getElem_cons_succ, List.getElem_cons_zero, List.setIfInBounds_toArray, List.set_cons_zero, List.set_cons_succ]
        exact wpAnyH_to (L1_7 _ v1 wv.heap.size (Ext.trans XE (Ext.alloc wv (.cells [.bool false, .slice none 0 0, .slice none 0 0, .bool false, .slice none 0 0, .slice none 0 0].toArray 56))) (p1.out.ext (Ext.alloc wv (.cells [.bool false, .slice none 0 0, .slice none 0 0, .bool false, .slice none 0 0, .slice none 0 0].toArray 56))) (Rt.new wv [.bool false, .slice none 0 0, .slice none 0 0, .bool false, .slice none 0 0, .slice none 0 0] 56) (Below.size XE)) (by kernel_rfl) (by kernel_rfl) rfl rfl
      · skip
        go_simp
        refine hK.out _ _ (KP.out _ (Ext.trans XE (Ext.alloc wv (.cells [.bool false, .slice none 0 0, .slice none 0 0].toArray 28)))) (fun _ => ?_)
        clear hK K
        try simp only [Act.put, List.getElem_toArray, List.getElem_cons_succ, List.getElem_cons_zero, List.setIfInBounds_toArray, List.set_cons_zero, List.set_cons_succ]
        exact wpAnyH_to (L1_8 _ v1 wv.heap.size (Ext.trans XE (Ext.alloc wv (.cells [.bool false, .slice none 0 0, .slice none 0 0].toArray 28))) (p1.out.ext (Ext.alloc wv (.cells [.bool false, .slice none 0 0, .slice none 0 0].toArray 28))) (Rt.new wv [.bool false, .slice none 0 0, .slice none 0 0] 28) (Below.size XE)) (by kernel_rfl) (by kernel_rfl) rfl rfl
    have L0_ : ∀ (wv : World), Hid (Ext w1 wv) → wpAnyH Try.prog .any O Q9 SS 9 #[true, false, true, false, true, false, false, false, false, false, false, false] ⟨#[.agg #[u0, u1, u2, u3, u4, u5], .agg #[q0, q1, q2, q3, q4, q5], .agg #[.bool s2, t1, t2], .pointer (some ⟨w.heap.size, 0, none⟩), .pointer (some ⟨w.heap.size + 1, 0, none⟩), .pointer (some ⟨w.heap.size + 1 + 1, 0, none⟩), .bool false, undef, undef, undef, undef, undef, .agg #[u0, u1, u2, u3, u4, u5], undef, .agg #[q0, q1, q2, q3, q4, q5], undef, .agg #[.bool s2, t1, t2], undef, undef, undef, undef, undef, undef, undef, undef, undef, undef, undef, undef, undef, undef, undef, undef, undef, undef, undef, undef, undef, undef, undef, undef, undef, undef, undef, undef, undef, undef, undef, undef, undef, undef, undef, undef, undef, undef, undef, undef, undef, undef, undef, undef, undef, undef, undef, undef, undef, undef, undef, undef, undef, undef, undef, undef, undef, undef, undef, undef, undef, undef, undef, undef, undef, undef, undef, undef, undef, undef, undef, undef, undef, undef, undef, undef, undef, undef, undef, undef], []⟩ wv := by
      intro wv hX
      have hO1 := hO.out
      have hQ1 := hQ.out
      subst hO1
      subst hQ1
      have XE := hX.out
      refine wpAnyH_ready (rs := [1, 6, 7, 8]) (by kernel_rfl) (by simp) ?_
      refine AllReadyH.cons (o := _) rfl (fun K hK => ?_) (AllReadyH.cons (o := _) rfl (fun K hK => ?_) (AllReadyH.cons (o := _) rfl (fun K hK => ?_) (AllReadyH.cons (o := _) rfl (fun K hK => ?_) AllReadyH.nil)))
      · skip
        go_simp
        go_at_call 31
        refine (HA.out _ _ (HV0.out.ext (Ext.trans b1 XE))).mono ?_
        rintro e wn ⟨vn, rfl, bn, on⟩
        go_wp2_with fail
        refine hK.out _ _ (KP.out _ (Ext.trans XE bn)) (fun _ => ?_)
        clear hK K
        try simp only [Act.put, List.getElem_toArray, List.getElem_cons_succ, List.getElem_cons_zero, List.setIfInBounds_toArray, List.set_cons_zero, List.set_cons_succ]
        exact wpAnyH_to (L1_ wn vn (Ext.trans XE bn) (on.mono (Below.size XE))) (by kernel_rfl) (by kernel_rfl) rfl rfl
      · skip
        go_simp
        refine hK.out _ _ (KP.out _ (Ext.trans XE (Ext.alloc wv (.cells [.bool false, .slice none 0 0, .slice none 0 0, .bool false, .slice none 0 0, .slice none 0 0].toArray 56)))) (fun _ => ?_)
        clear hK K
        try simp only [Act.put, List.getElem_toArray, List.getElem_cons_succ, List.getElem_cons_zero, List.setIfInBounds_toArray, List.set_cons_zero, List.set_cons_succ]
        exact wpAnyH_to (L0_6 _ wv.heap.size (Ext.trans XE (Ext.alloc wv (.cells [.bool false, .slice none 0 0, .slice none 0 0, .bool false, .slice none 0 0, .slice none 0 0].toArray 56))) (Rt.new wv [.bool false, .slice none 0 0, .slice none 0 0, .bool false, .slice none 0 0, .slice none 0 0] 56) (Below.size XE)) (by kernel_rfl) (by kernel_rfl) rfl rfl
      · skip
        go_simp
        refine hK.out _ _ (KP.out _ (Ext.trans XE (Ext.alloc wv (.cells [.bool false, .slice none 0 0, .slice none 0 0, .bool false, .slice none 0 0, .slice none 0 0].toArray 56)))) (fun _ => ?_)
        clear hK K
        try simp only [Act.put, List.getElem_toArray, List.getElem_cons_succ, List.getElem_cons_zero, List.setIfInBounds_toArray, List.set_cons_zero, List.set_cons_succ]
        exact wpAnyH_to (L0_7 _ wv.heap.size (Ext.trans XE (Ext.alloc wv (.cells [.bool false, .slice none 0 0, .slice none 0 0, .bool false, .slice none 0 0, .slice none 0 0].toArray 56))) (Rt.new wv [.bool false, .slice none 0 0, .slice none 0 0, .bool false, .slice none 0 0, .slice none 0 0] 56) (Below.size XE)) (by kernel_rfl) (by kernel_rfl) rfl rfl
      · skip
        go_simp
        refine hK.out _ _ (KP.out _ (Ext.trans XE (Ext.alloc wv (.cells [.bool false, .slice none 0 0, .slice none 0 0].toArray 28)))) (fun _ => ?_)
        clear hK K
        try simp only [Act.put, List.getElem_toArray, List.getElem_cons_succ, List.getElem_cons_zero, List.setIfInBounds_toArray, List.set_cons_zero, List.set_cons_succ]
        exact wpAnyH_to (L0_8 _ wv.heap.size (Ext.trans XE (Ext.alloc wv (.cells [.bool false, .slice none 0 0, .slice none 0 0].toArray 28))) (Rt.new wv [.bool false, .slice none 0 0, .slice none 0 0] 28) (Below.size XE)) (by kernel_rfl) (by kernel_rfl) rfl rfl
    have hO1 := hO.out
    have hQ1 := hQ.out
    subst hO1
    subst hQ1
    have hS1 := hSS.out
    subst hS1
    refine wp_region_held_drew (S := fun w' => (w'.cell? ⟨w.heap.size, 0, none⟩ = some (u0) ∧ w'.cell? ⟨w.heap.size, 1, none⟩ = some (u1) ∧ w'.cell? ⟨w.heap.size, 2, none⟩ = some (u2) ∧ w'.cell? ⟨w.heap.size, 3, none⟩ = some (u3) ∧ w'.cell? ⟨w.heap.size, 4, none⟩ = some (u4) ∧ w'.cell? ⟨w.heap.size, 5, none⟩ = some (u5)) ∧ (w'.cell? ⟨w.heap.size + 1, 0, none⟩ = some (q0) ∧ w'.cell? ⟨w.heap.size + 1, 1, none⟩ = some (q1) ∧ w'.cell? ⟨w.heap.size + 1, 2, none⟩ = some (q2) ∧ w'.cell? ⟨w.heap.size + 1, 3, none⟩ = some (q3) ∧ w'.cell? ⟨w.heap.size + 1, 4, none⟩ = some (q4) ∧ w'.cell? ⟨w.heap.size + 1, 5, none⟩ = some (q5)) ∧ (w'.cell? ⟨w.heap.size + 1 + 1, 0, none⟩ = some (.bool s2) ∧ w'.cell? ⟨w.heap.size + 1 + 1, 1, none⟩ = some (t1) ∧ w'.cell? ⟨w.heap.size + 1 + 1, 2, none⟩ = some (t2))) (by kernel_rfl) (⟨(C1.out.ext (drew_ext w1)).c6, (C2.out.ext (drew_ext w1)).c6, (C3.out.ext (drew_ext w1)).c3⟩) (fun hHeld => ?_)
    refine wpAnyH_take (i := 0) (v := ?_) rfl (by kernel_rfl) (by kernel_rfl) (by kernel_rfl) (fun _ _ _ h => h) (Or.inl ⟨by rfl, fun w0 hSw => ?_⟩) hHeld ?_
    rotate_left
    · (try dsimp only at hSw)
      go_simp
      try with_reducible rfl
    simp only [Act.put, List.getElem_toArray, List.getElem_cons_succ, List.getElem_cons_zero, List.setIfInBounds_toArray, List.set_cons_zero, List.set_cons_succ]
    refine wpAnyH_take (i := 2) (v := ?_) rfl (by kernel_rfl) (by kernel_rfl) (by kernel_rfl) (fun _ _ _ h => h) (Or.inl ⟨by rfl, fun w0 hSw => ?_⟩) hHeld ?_
    rotate_left
    · (try dsimp only at hSw)
      go_simp
      try with_reducible rfl
    simp only [Act.put, List.getElem_toArray, List.getElem_cons_succ, List.getElem_cons_zero, List.setIfInBounds_toArray, List.set_cons_zero, List.set_cons_succ]
    refine wpAnyH_take (i := 4) (v := ?_) rfl (by kernel_rfl) (by kernel_rfl) (by kernel_rfl) (fun _ _ _ h => h) (Or.inl ⟨by rfl, fun w0 hSw => ?_⟩) hHeld ?_
    rotate_left
    · (try dsimp only at hSw)
      go_simp
      try with_reducible rfl
    simp only [Act.put, List.getElem_toArray, List.getElem_cons_succ, List.getElem_cons_zero, List.setIfInBounds_toArray, List.set_cons_zero, List.set_cons_succ]
    exact wpAnyH_to (L0_ w1.drew (drew_ext w1)) (by kernel_rfl) (by kernel_rfl) rfl rfl
  case rest =>
    obtain ⟨B, C, D, x0, x1, x2, x3, x4, x5, y0, y1, y2, y3, y4, y5, z0, z1, z2, rfl, rfl, rfl, hT⟩ := hcut
    generalize wc = w2 at *
    obtain ⟨b2, k1, k2, k3, rA, rC, rR⟩ := hT.out
    have K1 := Lib.hid k1
    have K2 := Lib.hid k2
    have K3 := Lib.hid k3
    have RA := Lib.hid rA
    have RC := Lib.hid rC
    have RR := Lib.hid rR
    have QA : Hid (RdQ w2 (.agg #[x0, x1, x2]) a) := RdD.fst rA
    have QB : Hid (RdQ w2 (.agg #[x3, x4, x5]) b) := RdD.snd rA
    have QC : Hid (RdQ w2 (.agg #[y0, y1, y2]) c) := RdD.fst rC
    have QD : Hid (RdQ w2 (.agg #[y3, y4, y5]) d) := RdD.snd rC
    have KB : Hid (B < w2.heap.size) := World.block_lt_of_cell? w2 _ k1.c6.1
    have KC : Hid (C < w2.heap.size) := World.block_lt_of_cell? w2 _ k2.c6.1
    clear hT k1 k2 k3 rA rC rR C1 C2 C3 HV0 HV1 HV2 HA HB HN
    go_upto_region 2 with (fail)
    go_cut [10] (fun s10 wx => ∃ (E : Nat) (h0 h1 h2 h3 h4 h5 : Value), s10 = .pointer (some ⟨E, 0, none⟩) ∧ Hid (Ext w2 wx ∧ Bx wx E [h0, h1, h2, h3, h4, h5] ∧ RdD wx (.agg #[h0, h1, h2, h3, h4, h5]) (a + c) (b + d)))
    case first =>
      refine wp_region_noPanic ?_
      refine region_cap fun O Q9 hO hQ => ?_
      obtain ⟨SS, hSS⟩ : ∃ SS : World → Prop, Hid (SS = fun w' => (w'.cell? ⟨B, 0, none⟩ = some (x0) ∧ w'.cell? ⟨B, 1, none⟩ = some (x1) ∧ w'.cell? ⟨B, 2, none⟩ = some (x2) ∧ w'.cell? ⟨B, 3, none⟩ = some (x3) ∧ w'.cell? ⟨B, 4, none⟩ = some (x4) ∧ w'.cell? ⟨B, 5, none⟩ = some (x5)) ∧ (w'.cell? ⟨C, 0, none⟩ = some (y0) ∧ w'.cell? ⟨C, 1, none⟩ = some (y1) ∧ w'.cell? ⟨C, 2, none⟩ = some (y2) ∧ w'.cell? ⟨C, 3, none⟩ = some (y3) ∧ w'.cell? ⟨C, 4, none⟩ = some (y4) ∧ w'.cell? ⟨C, 5, none⟩ = some (y5))) := ⟨_, rfl⟩
      have KP : Hid (∀ wv, Ext w2 wv → SS wv) := fun wv XE => by rw [hSS.out]; exact ⟨(K1.out.ext XE).c6, (K2.out.ext XE).c6⟩
      have L3_11 : ∀ (wv : World) (v4 v9 v10 : Value) (B11 : Nat), Hid (Ext w2 wv) → Hid (OwnQ 148 w2.heap.size wv v4 (a + c)) → Hid (OwnQ 148 w2.heap.size wv v9 (b + d)) → Hid (OwnD 148 w2.heap.size wv v10 (a + c) (b + d)) → Hid (Rt wv B11 6 56) → Hid (w2.heap.size ≤ B11) → wpAnyH Try.prog .any O Q9 SS 1 #[true, true, true, true, true, true, true, true, true, true, true, true, false] ⟨#[.agg #[u0, u1, u2, u3, u4, u5], .agg #[q0, q1, q2, q3, q4, q5], .agg #[.bool s2, t1, t2], .pointer (some ⟨w.heap.size, 0, none⟩), .pointer (some ⟨w.heap.size + 1, 0, none⟩), .pointer (some ⟨w.heap.size + 1 + 1, 0, none⟩), .bool false, .pointer (some ⟨B, 0, none⟩), .pointer (some ⟨C, 0, none⟩), .pointer (some ⟨D, 0, none⟩), .pointer (some ⟨B11, 0, none⟩), undef, u12, u13, u14, u15, u16, u17, .pointer (some ⟨B, 0, none⟩), .agg #[x0, x1, x2], .pointer (some ⟨C, 0, none⟩), .agg #[y0, y1, y2], v4, .pointer (some ⟨B, 3, none⟩), .agg #[x3, x4, x5], .pointer (some ⟨C, 3, none⟩), .agg #[y3, y4, y5], v9, v10, u29, u30, u31, u32, u33, u34, u35, u36, u37, u38, u39, u40, u41, u42, u43, u44, u45, u46, u47, u48, u49, u50, u51, u52, u53, u54, u55, u56, u57, u58, u59, u60, u61, u62, u63, u64, u65, u66, u67, u68, u69, u70, u71, u72, u73, u74, u75, u76, u77, u78, u79, u80, u81, u82, u83, u84, u85, u86, u87, u88, u89, u90, u91, u92, u93, u94, u95, u96], []⟩ wv := by
        intro wv v4 v9 v10 B11 hX p4 p9 p10 r11 s11
        have hO1 := hO.out
        have hQ1 := hQ.out
        subst hO1
        subst hQ1
        have XE := hX.out
        have hS1 := hSS.out
        subst hS1
        have hHeld : (fun w' => (w'.cell? ⟨B, 0, none⟩ = some (x0) ∧ w'.cell? ⟨B, 1, none⟩ = some (x1) ∧ w'.cell? ⟨B, 2, none⟩ = some (x2) ∧ w'.cell? ⟨B, 3, none⟩ = some (x3) ∧ w'.cell? ⟨B, 4, none⟩ = some (x4) ∧ w'.cell? ⟨B, 5, none⟩ = some (x5)) ∧ (w'.cell? ⟨C, 0, none⟩ = some (y0) ∧ w'.cell? ⟨C, 1, none⟩ = some (y1) ∧ w'.cell? ⟨C, 2, none⟩ = some (y2) ∧ w'.cell? ⟨C, 3, none⟩ = some (y3) ∧ w'.cell? ⟨C, 4, none⟩ = some (y4) ∧ w'.cell? ⟨C, 5, none⟩ = some (y5))) wv := ⟨(K1.out.ext XE).c6, (K2.out.ext XE).c6⟩
        have OO := p10
        obtain ⟨n4, d4, n9, d9, rfl, on4, od4, on9, od9⟩ := p10.out
        obtain ⟨an4, cn4, rfl, -, -, -, -⟩ := on4.rd.1.shape
        obtain ⟨ad4, cd4, rfl, -, -, -, -⟩ := od4.rd.1.shape
        obtain ⟨an9, cn9, rfl, -, -, -, -⟩ := on9.rd.1.shape
        obtain ⟨ad9, cd9, rfl, -, -, -, -⟩ := od9.rd.1.shape
        clear on4 od4 on9 od9
        obtain ⟨_, _, _, _, _, _, i0, i1, i2, i3, i4, i5, f0, f1, f2, f3, f4, f5⟩ := r11.out.rm.c6
        have kb : B ≠ B11 := fun h => by have h1 := s11.out; have h2 := KB.out; omega
        have kc : C ≠ B11 := fun h => by have h1 := s11.out; have h2 := KC.out; omega
        refine wpAnyH_ready (rs := [12]) (by kernel_rfl) (by simp) ?_
        refine AllReadyH.cons (o := _) rfl (fun K hK => ?_) AllReadyH.nil
        go_simp
        refine hK.out _ _ (⟨((K1.out.ext XE).put6 kb _ _ _ _ _ _).c6, ((K2.out.ext XE).put6 kc _ _ _ _ _ _).c6⟩) (fun hHeld => ?_)
        clear hK K
        try simp only [Act.put, List.getElem_toArray, List.getElem_cons_succ, List.getElem_cons_zero, List.setIfInBounds_toArray, List.set_cons_zero, List.set_cons_succ]
        refine wpAnyH_done (by kernel_rfl) ?_ _
        refine NoPanic.normal ?_
        go_wp2_with fail
        go_meet
        exact ⟨_, _, _, _, _, _, _, rfl, put6_below hX.out s11.out _ _ _ _ _ _, (r11.out.putL_at [_, _, _, _, _, _] rfl).1, (OwnD.putT OO.out r11.out (by decide) 0 [_, _, _, _, _, _]).rd⟩
      have L2_11 : ∀ (wv : World) (v4 v9 : Value) (B11 : Nat), Hid (Ext w2 wv) → Hid (OwnQ 148 w2.heap.size wv v4 (a + c)) → Hid (OwnQ 148 w2.heap.size wv v9 (b + d)) → Hid (Rt wv B11 6 56) → Hid (w2.heap.size ≤ B11) → wpAnyH Try.prog .any O Q9 SS 2 #[true, true, true, true, true, true, true, true, true, true, false, true, false] ⟨#[.agg #[u0, u1, u2, u3, u4, u5], .agg #[q0, q1, q2, q3, q4, q5], .agg #[.bool s2, t1, t2], .pointer (some ⟨w.heap.size, 0, none⟩), .pointer (some ⟨w.heap.size + 1, 0, none⟩), .pointer (some ⟨w.heap.size + 1 + 1, 0, none⟩), .bool false, .pointer (some ⟨B, 0, none⟩), .pointer (some ⟨C, 0, none⟩), .pointer (some ⟨D, 0, none⟩), .pointer (some ⟨B11, 0, none⟩), undef, u12, u13, u14, u15, u16, u17, .pointer (some ⟨B, 0, none⟩), .agg #[x0, x1, x2], .pointer (some ⟨C, 0, none⟩), .agg #[y0, y1, y2], v4, .pointer (some ⟨B, 3, none⟩), .agg #[x3, x4, x5], .pointer (some ⟨C, 3, none⟩), .agg #[y3, y4, y5], v9, u28, u29, u30, u31, u32, u33, u34, u35, u36, u37, u38, u39, u40, u41, u42, u43, u44, u45, u46, u47, u48, u49, u50, u51, u52, u53, u54, u55, u56, u57, u58, u59, u60, u61, u62, u63, u64, u65, u66, u67, u68, u69, u70, u71, u72, u73, u74, u75, u76, u77, u78, u79, u80, u81, u82, u83, u84, u85, u86, u87, u88, u89, u90, u91, u92, u93, u94, u95, u96], []⟩ wv := by
        intro wv v4 v9 B11 hX p4 p9 r11 s11
        have hO1 := hO.out
        have hQ1 := hQ.out
        subst hO1
        subst hQ1
        have XE := hX.out
        have hS1 := hSS.out
        subst hS1
        have hHeld : (fun w' => (w'.cell? ⟨B, 0, none⟩ = some (x0) ∧ w'.cell? ⟨B, 1, none⟩ = some (x1) ∧ w'.cell? ⟨B, 2, none⟩ = some (x2) ∧ w'.cell? ⟨B, 3, none⟩ = some (x3) ∧ w'.cell? ⟨B, 4, none⟩ = some (x4) ∧ w'.cell? ⟨B, 5, none⟩ = some (x5)) ∧ (w'.cell? ⟨C, 0, none⟩ = some (y0) ∧ w'.cell? ⟨C, 1, none⟩ = some (y1) ∧ w'.cell? ⟨C, 2, none⟩ = some (y2) ∧ w'.cell? ⟨C, 3, none⟩ = some (y3) ∧ w'.cell? ⟨C, 4, none⟩ = some (y4) ∧ w'.cell? ⟨C, 5, none⟩ = some (y5))) wv := ⟨(K1.out.ext XE).c6, (K2.out.ext XE).c6⟩
        obtain ⟨n4, d4, rfl, on4, od4⟩ := p4.out
        obtain ⟨n9, d9, rfl, on9, od9⟩ := p9.out
        refine wpAnyH_take (i := 10) (v := ?_) rfl (by kernel_rfl) (by kernel_rfl) (by kernel_rfl) (fun _ _ _ h => h) (Or.inl ⟨by rfl, fun w0 hSw => ?_⟩) hHeld ?_
        rotate_left
        · (try dsimp only at hSw)
          go_simp
          try with_reducible rfl
        simp only [Act.put, List.getElem_toArray, List.getElem_cons_succ, List.getElem_cons_zero, List.setIfInBounds_toArray, List.set_cons_zero, List.set_cons_succ]
        exact wpAnyH_to (L3_11 wv _ _ _ B11 hX.out p4.out p9.out (⟨_, _, _, _, rfl, on4, od4, on9, od9⟩) r11.out s11.out) (by kernel_rfl) (by kernel_rfl) rfl rfl
      have L3_ : ∀ (wv : World) (v4 v9 v10 : Value), Hid (Ext w2 wv) → Hid (OwnQ 148 w2.heap.size wv v4 (a + c)) → Hid (OwnQ 148 w2.heap.size wv v9 (b + d)) → Hid (OwnD 148 w2.heap.size wv v10 (a + c) (b + d)) → wpAnyH Try.prog .any O Q9 SS 2 #[true, true, true, true, true, true, true, true, true, true, true, false, false] ⟨#[.agg #[u0, u1, u2, u3, u4, u5], .agg #[q0, q1, q2, q3, q4, q5], .agg #[.bool s2, t1, t2], .pointer (some ⟨w.heap.size, 0, none⟩), .pointer (some ⟨w.heap.size + 1, 0, none⟩), .pointer (some ⟨w.heap.size + 1 + 1, 0, none⟩), .bool false, .pointer (some ⟨B, 0, none⟩), .pointer (some ⟨C, 0, none⟩), .pointer (some ⟨D, 0, none⟩), undef, undef, u12, u13, u14, u15, u16, u17, .pointer (some ⟨B, 0, none⟩), .agg #[x0, x1, x2], .pointer (some ⟨C, 0, none⟩), .agg #[y0, y1, y2], v4, .pointer (some ⟨B, 3, none⟩), .agg #[x3, x4, x5], .pointer (some ⟨C, 3, none⟩), .agg #[y3, y4, y5], v9, v10, u29, u30, u31, u32, u33, u34, u35, u36, u37, u38, u39, u40, u41, u42, u43, u44, u45, u46, u47, u48, u49, u50, u51, u52, u53, u54, u55, u56, u57, u58, u59, u60, u61, u62, u63, u64, u65, u66, u67, u68, u69, u70, u71, u72, u73, u74, u75, u76, u77, u78, u79, u80, u81, u82, u83, u84, u85, u86, u87, u88, u89, u90, u91, u92, u93, u94, u95, u96], []⟩ wv := by
        intro wv v4 v9 v10 hX p4 p9 p10
        have hO1 := hO.out
        have hQ1 := hQ.out
        subst hO1
        subst hQ1
        have XE := hX.out
        refine wpAnyH_ready (rs := [11]) (by kernel_rfl) (by simp) ?_
        refine AllReadyH.cons (o := _) rfl (fun K hK => ?_) AllReadyH.nil
        · skip
          go_simp
          refine hK.out _ _ (KP.out _ (Ext.trans XE (Ext.alloc wv (.cells [.bool false, .slice none 0 0, .slice none 0 0, .bool false, .slice none 0 0, .slice none 0 0].toArray 56)))) (fun _ => ?_)
          clear hK K
          try simp only [Act.put, List.getElem_toArray, List.getElem_cons_succ, List.getElem_cons_zero, List.setIfInBounds_toArray, List.set_cons_zero, List.set_cons_succ]
          exact wpAnyH_to (L3_11 _ v4 v9 v10 wv.heap.size (Ext.trans XE (Ext.alloc wv (.cells [.bool false, .slice none 0 0, .slice none 0 0, .bool false, .slice none 0 0, .slice none 0 0].toArray 56))) (p4.out.ext (Ext.alloc wv (.cells [.bool false, .slice none 0 0, .slice none 0 0, .bool false, .slice none 0 0, .slice none 0 0].toArray 56))) (p9.out.ext (Ext.alloc wv (.cells [.bool false, .slice none 0 0, .slice none 0 0, .bool false, .slice none 0 0, .slice none 0 0].toArray 56))) (p10.out.ext (Ext.alloc wv (.cells [.bool false, .slice none 0 0, .slice none 0 0, .bool false, .slice none 0 0, .slice none 0 0].toArray 56))) (Rt.new wv [.bool false, .slice none 0 0, .slice none 0 0, .bool false, .slice none 0 0, .slice none 0 0] 56) (Below.size XE)) (by kernel_rfl) (by kernel_rfl) rfl rfl
      have L1_11 : ∀ (wv : World) (v4 : Value) (B11 : Nat), Hid (Ext w2 wv) → Hid (OwnQ 148 w2.heap.size wv v4 (a + c)) → Hid (Rt wv B11 6 56) → Hid (w2.heap.size ≤ B11) → wpAnyH Try.prog .any O Q9 SS 3 #[true, true, true, true, true, true, true, true, true, false, false, true, false] ⟨#[.agg #[u0, u1, u2, u3, u4, u5], .agg #[q0, q1, q2, q3, q4, q5], .agg #[.bool s2, t1, t2], .pointer (some ⟨w.heap.size, 0, none⟩), .pointer (some ⟨w.heap.size + 1, 0, none⟩), .pointer (some ⟨w.heap.size + 1 + 1, 0, none⟩), .bool false, .pointer (some ⟨B, 0, none⟩), .pointer (some ⟨C, 0, none⟩), .pointer (some ⟨D, 0, none⟩), .pointer (some ⟨B11, 0, none⟩), undef, u12, u13, u14, u15, u16, u17, .pointer (some ⟨B, 0, none⟩), .agg #[x0, x1, x2], .pointer (some ⟨C, 0, none⟩), .agg #[y0, y1, y2], v4, .pointer (some ⟨B, 3, none⟩), .agg #[x3, x4, x5], .pointer (some ⟨C, 3, none⟩), .agg #[y3, y4, y5], u27, u28, u29, u30, u31, u32, u33, u34, u35, u36, u37, u38, u39, u40, u41, u42, u43, u44, u45, u46, u47, u48, u49, u50, u51, u52, u53, u54, u55, u56, u57, u58, u59, u60, u61, u62, u63, u64, u65, u66, u67, u68, u69, u70, u71, u72, u73, u74, u75, u76, u77, u78, u79, u80, u81, u82, u83, u84, u85, u86, u87, u88, u89, u90, u91, u92, u93, u94, u95, u96], []⟩ wv := by
        intro wv v4 B11 hX p4 r11 s11
        have hO1 := hO.out
        have hQ1 := hQ.out
        subst hO1
        subst hQ1
        have XE := hX.out
        refine wpAnyH_ready (rs := [9]) (by kernel_rfl) (by simp) ?_
        refine AllReadyH.cons (o := _) rfl (fun K hK => ?_) AllReadyH.nil
        · skip
          go_simp
          go_at_call 33
          refine (radd_any (QB.out.ext XE) (QD.out.ext XE) (SB.out.le (by decide)) (SD.out.le (by decide))).mono ?_
          rintro e wn ⟨vn, rfl, bn, on⟩
          go_wp2_with fail
          refine hK.out _ _ (KP.out _ (Ext.trans XE bn)) (fun _ => ?_)
          clear hK K
          try simp only [Act.put, List.getElem_toArray, List.getElem_cons_succ, List.getElem_cons_zero, List.setIfInBounds_toArray, List.set_cons_zero, List.set_cons_succ]
          exact wpAnyH_to (L2_11 wn v4 vn B11 (Ext.trans XE bn) (p4.out.ext bn) (on.mono (Below.size XE)) (r11.out.ext bn) s11) (by kernel_rfl) (by kernel_rfl) rfl rfl
      have L2_ : ∀ (wv : World) (v4 v9 : Value), Hid (Ext w2 wv) → Hid (OwnQ 148 w2.heap.size wv v4 (a + c)) → Hid (OwnQ 148 w2.heap.size wv v9 (b + d)) → wpAnyH Try.prog .any O Q9 SS 3 #[true, true, true, true, true, true, true, true, true, true, false, false, false] ⟨#[.agg #[u0, u1, u2, u3, u4, u5], .agg #[q0, q1, q2, q3, q4, q5], .agg #[.bool s2, t1, t2], .pointer (some ⟨w.heap.size, 0, none⟩), .pointer (some ⟨w.heap.size + 1, 0, none⟩), .pointer (some ⟨w.heap.size + 1 + 1, 0, none⟩), .bool false, .pointer (some ⟨B, 0, none⟩), .pointer (some ⟨C, 0, none⟩), .pointer (some ⟨D, 0, none⟩), undef, undef, u12, u13, u14, u15, u16, u17, .pointer (some ⟨B, 0, none⟩), .agg #[x0, x1, x2], .pointer (some ⟨C, 0, none⟩), .agg #[y0, y1, y2], v4, .pointer (some ⟨B, 3, none⟩), .agg #[x3, x4, x5], .pointer (some ⟨C, 3, none⟩), .agg #[y3, y4, y5], v9, u28, u29, u30, u31, u32, u33, u34, u35, u36, u37, u38, u39, u40, u41, u42, u43, u44, u45, u46, u47, u48, u49, u50, u51, u52, u53, u54, u55, u56, u57, u58, u59, u60, u61, u62, u63, u64, u65, u66, u67, u68, u69, u70, u71, u72, u73, u74, u75, u76, u77, u78, u79, u80, u81, u82, u83, u84, u85, u86, u87, u88, u89, u90, u91, u92, u93, u94, u95, u96], []⟩ wv := by
        intro wv v4 v9 hX p4 p9
        have hO1 := hO.out
        have hQ1 := hQ.out
        subst hO1
        subst hQ1
        have XE := hX.out
        have hS1 := hSS.out
        subst hS1
        have hHeld : (fun w' => (w'.cell? ⟨B, 0, none⟩ = some (x0) ∧ w'.cell? ⟨B, 1, none⟩ = some (x1) ∧ w'.cell? ⟨B, 2, none⟩ = some (x2) ∧ w'.cell? ⟨B, 3, none⟩ = some (x3) ∧ w'.cell? ⟨B, 4, none⟩ = some (x4) ∧ w'.cell? ⟨B, 5, none⟩ = some (x5)) ∧ (w'.cell? ⟨C, 0, none⟩ = some (y0) ∧ w'.cell? ⟨C, 1, none⟩ = some (y1) ∧ w'.cell? ⟨C, 2, none⟩ = some (y2) ∧ w'.cell? ⟨C, 3, none⟩ = some (y3) ∧ w'.cell? ⟨C, 4, none⟩ = some (y4) ∧ w'.cell? ⟨C, 5, none⟩ = some (y5))) wv := ⟨(K1.out.ext XE).c6, (K2.out.ext XE).c6⟩
        obtain ⟨n4, d4, rfl, on4, od4⟩ := p4.out
        obtain ⟨n9, d9, rfl, on9, od9⟩ := p9.out
        refine wpAnyH_take (i := 10) (v := ?_) rfl (by kernel_rfl) (by kernel_rfl) (by kernel_rfl) (fun _ _ _ h => h) (Or.inl ⟨by rfl, fun w0 hSw => ?_⟩) hHeld ?_
        rotate_left
        · (try dsimp only at hSw)
          go_simp
          try with_reducible rfl
        simp only [Act.put, List.getElem_toArray, List.getElem_cons_succ, List.getElem_cons_zero, List.setIfInBounds_toArray, List.set_cons_zero, List.set_cons_succ]
        exact wpAnyH_to (L3_ wv _ _ _ hX.out p4.out p9.out (⟨_, _, _, _, rfl, on4, od4, on9, od9⟩)) (by kernel_rfl) (by kernel_rfl) rfl rfl
      have L0_11 : ∀ (wv : World) (B11 : Nat), Hid (Ext w2 wv) → Hid (Rt wv B11 6 56) → Hid (w2.heap.size ≤ B11) → wpAnyH Try.prog .any O Q9 SS 4 #[true, true, true, true, false, true, true, true, true, false, false, true, false] ⟨#[.agg #[u0, u1, u2, u3, u4, u5], .agg #[q0, q1, q2, q3, q4, q5], .agg #[.bool s2, t1, t2], .pointer (some ⟨w.heap.size, 0, none⟩), .pointer (some ⟨w.heap.size + 1, 0, none⟩), .pointer (some ⟨w.heap.size + 1 + 1, 0, none⟩), .bool false, .pointer (some ⟨B, 0, none⟩), .pointer (some ⟨C, 0, none⟩), .pointer (some ⟨D, 0, none⟩), .pointer (some ⟨B11, 0, none⟩), undef, u12, u13, u14, u15, u16, u17, .pointer (some ⟨B, 0, none⟩), .agg #[x0, x1, x2], .pointer (some ⟨C, 0, none⟩), .agg #[y0, y1, y2], u22, .pointer (some ⟨B, 3, none⟩), .agg #[x3, x4, x5], .pointer (some ⟨C, 3, none⟩), .agg #[y3, y4, y5], u27, u28, u29, u30, u31, u32, u33, u34, u35, u36, u37, u38, u39, u40, u41, u42, u43, u44, u45, u46, u47, u48, u49, u50, u51, u52, u53, u54, u55, u56, u57, u58, u59, u60, u61, u62, u63, u64, u65, u66, u67, u68, u69, u70, u71, u72, u73, u74, u75, u76, u77, u78, u79, u80, u81, u82, u83, u84, u85, u86, u87, u88, u89, u90, u91, u92, u93, u94, u95, u96], []⟩ wv := by
        intro wv B11 hX r11 s11
        have hO1 := hO.out
        have hQ1 := hQ.out
        subst hO1
        subst hQ1
        have XE := hX.out
        refine wpAnyH_ready (rs := [4]) (by kernel_rfl) (by simp) ?_
        refine AllReadyH.cons (o := _) rfl (fun K hK => ?_) AllReadyH.nil
        · skip
          go_simp
          go_at_call 33
          refine (radd_any (QA.out.ext XE) (QC.out.ext XE) (SA.out.le (by decide)) (SC.out.le (by decide))).mono ?_
          rintro e wn ⟨vn, rfl, bn, on⟩
          go_wp2_with fail
          refine hK.out _ _ (KP.out _ (Ext.trans XE bn)) (fun _ => ?_)
          clear hK K
          try simp only [Act.put, List.getElem_toArray, List.getElem_cons_succ, List.getElem_cons_zero, List.setIfInBounds_toArray, List.set_cons_zero, List.set_cons_succ]
          exact wpAnyH_to (L1_11 wn vn B11 (Ext.trans XE bn) (on.mono (Below.size XE)) (r11.out.ext bn) s11) (by kernel_rfl) (by kernel_rfl) rfl rfl
      have L1_ : ∀ (wv : World) (v4 : Value), Hid (Ext w2 wv) → Hid (OwnQ 148 w2.heap.size wv v4 (a + c)) → wpAnyH Try.prog .any O Q9 SS 4 #[true, true, true, true, true, true, true, true, true, false, false, false, false] ⟨#[.agg #[u0, u1, u2, u3, u4, u5], .agg #[q0, q1, q2, q3, q4, q5], .agg #[.bool s2, t1, t2], .pointer (some ⟨w.heap.size, 0, none⟩), .pointer (some ⟨w.heap.size + 1, 0, none⟩), .pointer (some ⟨w.heap.size + 1 + 1, 0, none⟩), .bool false, .pointer (some ⟨B, 0, none⟩), .pointer (some ⟨C, 0, none⟩), .pointer (some ⟨D, 0, none⟩), undef, undef, u12, u13, u14, u15, u16, u17, .pointer (some ⟨B, 0, none⟩), .agg #[x0, x1, x2], .pointer (some ⟨C, 0, none⟩), .agg #[y0, y1, y2], v4, .pointer (some ⟨B, 3, none⟩), .agg #[x3, x4, x5], .pointer (some ⟨C, 3, none⟩), .agg #[y3, y4, y5], u27, u28, u29, u30, u31, u32, u33, u34, u35, u36, u37, u38, u39, u40, u41, u42, u43, u44, u45, u46, u47, u48, u49, u50, u51, u52, u53, u54, u55, u56, u57, u58, u59, u60, u61, u62, u63, u64, u65, u66, u67, u68, u69, u70, u71, u72, u73, u74, u75, u76, u77, u78, u79, u80, u81, u82, u83, u84, u85, u86, u87, u88, u89, u90, u91, u92, u93, u94, u95, u96], []⟩ wv := by
        intro wv v4 hX p4
        have hO1 := hO.out
        have hQ1 := hQ.out
        subst hO1
        subst hQ1
        have XE := hX.out
        refine wpAnyH_ready (rs := [9, 11]) (by kernel_rfl) (by simp) ?_
        refine AllReadyH.cons (o := _) rfl (fun K hK => ?_) (AllReadyH.cons (o := _) rfl (fun K hK => ?_) AllReadyH.nil)
        · skip
          go_simp
          go_at_call 33
          refine (radd_any (QB.out.ext XE) (QD.out.ext XE) (SB.out.le (by decide)) (SD.out.le (by decide))).mono ?_
          rintro e wn ⟨vn, rfl, bn, on⟩
          go_wp2_with fail
          refine hK.out _ _ (KP.out _ (Ext.trans XE bn)) (fun _ => ?_)
          clear hK K
          try simp only [Act.put, List.getElem_toArray, List.getElem_cons_succ, List.getElem_cons_zero, List.setIfInBounds_toArray, List.set_cons_zero, List.set_cons_succ]
          exact wpAnyH_to (L2_ wn v4 vn (Ext.trans XE bn) (p4.out.ext bn) (on.mono (Below.size XE))) (by kernel_rfl) (by kernel_rfl) rfl rfl
        · skip
          go_simp
          refine hK.out _ _ (KP.out _ (Ext.trans XE (Ext.alloc wv (.cells [.bool false, .slice none 0 0, .slice none 0 0, .bool false, .slice none 0 0, .slice none 0 0].toArray 56)))) (fun _ => ?_)
          clear hK K
          try simp only [Act.put, List.getElem_toArray, List.getElem_cons_succ, List.getElem_cons_zero, List.setIfInBounds_toArray, List.set_cons_zero, List.set_cons_succ]
          exact wpAnyH_to (L1_11 _ v4 wv.heap.size (Ext.trans XE (Ext.alloc wv (.cells [.bool false, .slice none 0 0, .slice none 0 0, .bool false, .slice none 0 0, .slice none 0 0].toArray 56))) (p4.out.ext (Ext.alloc wv (.cells [.bool false, .slice none 0 0, .slice none 0 0, .bool false, .slice none 0 0, .slice none 0 0].toArray 56))) (Rt.new wv [.bool false, .slice none 0 0, .slice none 0 0, .bool false, .slice none 0 0, .slice none 0 0] 56) (Below.size XE)) (by kernel_rfl) (by kernel_rfl) rfl rfl
      have L0_ : ∀ (wv : World), Hid (Ext w2 wv) → wpAnyH Try.prog .any O Q9 SS 5 #[true, true, true, true, false, true, true, true, true, false, false, false, false] ⟨#[.agg #[u0, u1, u2, u3, u4, u5], .agg #[q0, q1, q2, q3, q4, q5], .agg #[.bool s2, t1, t2], .pointer (some ⟨w.heap.size, 0, none⟩), .pointer (some ⟨w.heap.size + 1, 0, none⟩), .pointer (some ⟨w.heap.size + 1 + 1, 0, none⟩), .bool false, .pointer (some ⟨B, 0, none⟩), .pointer (some ⟨C, 0, none⟩), .pointer (some ⟨D, 0, none⟩), undef, undef, u12, u13, u14, u15, u16, u17, .pointer (some ⟨B, 0, none⟩), .agg #[x0, x1, x2], .pointer (some ⟨C, 0, none⟩), .agg #[y0, y1, y2], u22, .pointer (some ⟨B, 3, none⟩), .agg #[x3, x4, x5], .pointer (some ⟨C, 3, none⟩), .agg #[y3, y4, y5], u27, u28, u29, u30, u31, u32, u33, u34, u35, u36, u37, u38, u39, u40, u41, u42, u43, u44, u45, u46, u47, u48, u49, u50, u51, u52, u53, u54, u55, u56, u57, u58, u59, u60, u61, u62, u63, u64, u65, u66, u67, u68, u69, u70, u71, u72, u73, u74, u75, u76, u77, u78, u79, u80, u81, u82, u83, u84, u85, u86, u87, u88, u89, u90, u91, u92, u93, u94, u95, u96], []⟩ wv := by
        intro wv hX
        have hO1 := hO.out
        have hQ1 := hQ.out
        subst hO1
        subst hQ1
        have XE := hX.out
        refine wpAnyH_ready (rs := [4, 11]) (by kernel_rfl) (by simp) ?_
        refine AllReadyH.cons (o := _) rfl (fun K hK => ?_) (AllReadyH.cons (o := _) rfl (fun K hK => ?_) AllReadyH.nil)
        · skip
          go_simp
          go_at_call 33
          refine (radd_any (QA.out.ext XE) (QC.out.ext XE) (SA.out.le (by decide)) (SC.out.le (by decide))).mono ?_
          rintro e wn ⟨vn, rfl, bn, on⟩
          go_wp2_with fail
          refine hK.out _ _ (KP.out _ (Ext.trans XE bn)) (fun _ => ?_)
          clear hK K
          try simp only [Act.put, List.getElem_toArray, List.getElem_cons_succ, List.getElem_cons_zero, List.setIfInBounds_toArray, List.set_cons_zero, List.set_cons_succ]
          exact wpAnyH_to (L1_ wn vn (Ext.trans XE bn) (on.mono (Below.size XE))) (by kernel_rfl) (by kernel_rfl) rfl rfl
        · skip
          go_simp
          refine hK.out _ _ (KP.out _ (Ext.trans XE (Ext.alloc wv (.cells [.bool false, .slice none 0 0, .slice none 0 0, .bool false, .slice none 0 0, .slice none 0 0].toArray 56)))) (fun _ => ?_)
          clear hK K
          try simp only [Act.put, List.getElem_toArray, List.getElem_cons_succ, List.getElem_cons_zero, List.setIfInBounds_toArray, List.set_cons_zero, List.set_cons_succ]
          exact wpAnyH_to (L0_11 _ wv.heap.size (Ext.trans XE (Ext.alloc wv (.cells [.bool false, .slice none 0 0, .slice none 0 0, .bool false, .slice none 0 0, .slice none 0 0].toArray 56))) (Rt.new wv [.bool false, .slice none 0 0, .slice none 0 0, .bool false, .slice none 0 0, .slice none 0 0] 56) (Below.size XE)) (by kernel_rfl) (by kernel_rfl) rfl rfl
      have hO1 := hO.out
      have hQ1 := hQ.out
      subst hO1
      subst hQ1
      have hS1 := hSS.out
      subst hS1
      refine wp_region_held_drew (S := fun w' => (w'.cell? ⟨B, 0, none⟩ = some (x0) ∧ w'.cell? ⟨B, 1, none⟩ = some (x1) ∧ w'.cell? ⟨B, 2, none⟩ = some (x2) ∧ w'.cell? ⟨B, 3, none⟩ = some (x3) ∧ w'.cell? ⟨B, 4, none⟩ = some (x4) ∧ w'.cell? ⟨B, 5, none⟩ = some (x5)) ∧ (w'.cell? ⟨C, 0, none⟩ = some (y0) ∧ w'.cell? ⟨C, 1, none⟩ = some (y1) ∧ w'.cell? ⟨C, 2, none⟩ = some (y2) ∧ w'.cell? ⟨C, 3, none⟩ = some (y3) ∧ w'.cell? ⟨C, 4, none⟩ = some (y4) ∧ w'.cell? ⟨C, 5, none⟩ = some (y5))) (by kernel_rfl) (⟨(K1.out.ext (drew_ext w2)).c6, (K2.out.ext (drew_ext w2)).c6⟩) (fun hHeld => ?_)
      refine wpAnyH_take (i := 0) (v := ?_) rfl (by kernel_rfl) (by kernel_rfl) (by kernel_rfl) (fun _ _ _ h => h) (Or.inl ⟨by rfl, fun w0 hSw => ?_⟩) hHeld ?_
      rotate_left
      · (try dsimp only at hSw)
        go_simp
        try with_reducible rfl
      simp only [Act.put, List.getElem_toArray, List.getElem_cons_succ, List.getElem_cons_zero, List.setIfInBounds_toArray, List.set_cons_zero, List.set_cons_succ]
      refine wpAnyH_take (i := 1) (v := ?_) rfl (by kernel_rfl) (by kernel_rfl) (by kernel_rfl) (fun _ _ _ h => h) (Or.inl ⟨by rfl, fun w0 hSw => ?_⟩) hHeld ?_
      rotate_left
      · (try dsimp only at hSw)
        go_simp
        try with_reducible rfl
      simp only [Act.put, List.getElem_toArray, List.getElem_cons_succ, List.getElem_cons_zero, List.setIfInBounds_toArray, List.set_cons_zero, List.set_cons_succ]
      refine wpAnyH_take (i := 2) (v := ?_) rfl (by kernel_rfl) (by kernel_rfl) (by kernel_rfl) (fun _ _ _ h => h) (Or.inl ⟨by rfl, fun w0 hSw => ?_⟩) hHeld ?_
      rotate_left
      · (try dsimp only at hSw)
        go_simp
        try with_reducible rfl
      simp only [Act.put, List.getElem_toArray, List.getElem_cons_succ, List.getElem_cons_zero, List.setIfInBounds_toArray, List.set_cons_zero, List.set_cons_succ]
      refine wpAnyH_take (i := 3) (v := ?_) rfl (by kernel_rfl) (by kernel_rfl) (by kernel_rfl) (fun _ _ _ h => h) (Or.inl ⟨by rfl, fun w0 hSw => ?_⟩) hHeld ?_
      rotate_left
      · (try dsimp only at hSw)
        go_simp
        try with_reducible rfl
      simp only [Act.put, List.getElem_toArray, List.getElem_cons_succ, List.getElem_cons_zero, List.setIfInBounds_toArray, List.set_cons_zero, List.set_cons_succ]
      refine wpAnyH_take (i := 5) (v := ?_) rfl (by kernel_rfl) (by kernel_rfl) (by kernel_rfl) (fun _ _ _ h => h) (Or.inl ⟨by rfl, fun w0 hSw => ?_⟩) hHeld ?_
      rotate_left
      · (try dsimp only at hSw)
        go_simp
        try with_reducible rfl
      simp only [Act.put, List.getElem_toArray, List.getElem_cons_succ, List.getElem_cons_zero, List.setIfInBounds_toArray, List.set_cons_zero, List.set_cons_succ]
      refine wpAnyH_take (i := 6) (v := ?_) rfl (by kernel_rfl) (by kernel_rfl) (by kernel_rfl) (fun _ _ _ h => h) (Or.inl ⟨by rfl, fun w0 hSw => ?_⟩) hHeld ?_
      rotate_left
      · (try dsimp only at hSw)
        go_simp
        try with_reducible rfl
      simp only [Act.put, List.getElem_toArray, List.getElem_cons_succ, List.getElem_cons_zero, List.setIfInBounds_toArray, List.set_cons_zero, List.set_cons_succ]
      refine wpAnyH_take (i := 7) (v := ?_) rfl (by kernel_rfl) (by kernel_rfl) (by kernel_rfl) (fun _ _ _ h => h) (Or.inl ⟨by rfl, fun w0 hSw => ?_⟩) hHeld ?_
      rotate_left
      · (try dsimp only at hSw)
        go_simp
        try with_reducible rfl
      simp only [Act.put, List.getElem_toArray, List.getElem_cons_succ, List.getElem_cons_zero, List.setIfInBounds_toArray, List.set_cons_zero, List.set_cons_succ]
      refine wpAnyH_take (i := 8) (v := ?_) rfl (by kernel_rfl) (by kernel_rfl) (by kernel_rfl) (fun _ _ _ h => h) (Or.inl ⟨by rfl, fun w0 hSw => ?_⟩) hHeld ?_
      rotate_left
      · (try dsimp only at hSw)
        go_simp
        try with_reducible rfl
      simp only [Act.put, List.getElem_toArray, List.getElem_cons_succ, List.getElem_cons_zero, List.setIfInBounds_toArray, List.set_cons_zero, List.set_cons_succ]
      exact wpAnyH_to (L0_ w2.drew (drew_ext w2)) (by kernel_rfl) (by kernel_rfl) rfl rfl
    case rest =>
      obtain ⟨E, h0, h1, h2, h3, h4, h5, rfl, hT⟩ := hcut
      generalize wc = w3 at *
      obtain ⟨b3, k4, rS⟩ := hT.out
      have K4 := Lib.hid k4
      have RS := Lib.hid rS
      clear hT k4 rS
      obtain ⟨u, hu⟩ : ∃ u, u = b.num.sign := ⟨_, rfl⟩
      have HSG : Hid (∀ w v, RdQ w v b → Calls Try.prog 34 #[v] w (Gives w fun v' _ => v' = .int .i64 u)) := fun w v h => hu ▸ rsign_any h
      have HU := Lib.hid hu
      clear hu
      obtain ⟨k0, k1, k2, k3, k4, k5⟩ := (K1.out.ext b3).c6
      go_upto_if 32 with (go_at_call 34; refine (HSG.out _ _ (QB.out.ext b3)).mono ?_; rintro e w4 ⟨_, rfl, b4, rfl⟩)
      clear k0 k1 k2 k3 k4 k5
      go_cut [11] (fun s11 wx => ∃ p : Int, s11 = .int .i64 p ∧ Hid (p = if u ≤ 0 then -1 else 0) ∧ Hid (Ext w4 wx))
      case first =>
        by_cases h : u ≤ 0
        · have hu : decide (u ≤ 0) = true := decide_eq_true h
          have H : Hid (u ≤ 0) := h
          go_wp2_with fail
          go_meet
          exact ⟨_, rfl, Lib.hid (if_pos H.out).symm, Ext.refl _⟩
        · have hu : decide (u ≤ 0) = false := decide_eq_false h
          have H : Hid (¬ u ≤ 0) := h
          clear h
          go_wp2_with fail
          go_meet
          exact ⟨_, rfl, Lib.hid (if_neg (show ¬ u ≤ 0 from Int.not_le.2 H.out)).symm, Ext.refl _⟩
      case rest =>
        obtain ⟨p, rfl, hp, hX⟩ := hcut
        have b5 := hX.out
        have HP : Hid (p = if b.num.sign ≤ 0 then -1 else 0) := by show _ = _; rw [← HU.out]; exact hp.out
        generalize wc = w5 at *
        clear hX hp
        obtain ⟨u', hu⟩ : ∃ u, u = a.num.sign := ⟨_, rfl⟩
        have HSG : Hid (∀ w v, RdQ w v a → Calls Try.prog 34 #[v] w (Gives w fun v' _ => v' = .int .i64 u')) := fun w v h => hu ▸ rsign_any h
        have HPH : Hid (phs a b = if 0 ≤ u' then 1 else p) := by show _ = _; rw [HP.out, hu]; rfl
        clear hu
        obtain ⟨k0, k1, k2, k3, k4, k5⟩ := (K1.out.ext (Ext.trans b3 (Ext.trans b4 b5))).c6
        go_upto_if 36 with (go_at_call 34; refine (HSG.out _ _ (QA.out.ext (Ext.trans b3 (Ext.trans b4 b5)))).mono ?_; rintro e w6 ⟨_, rfl, b6, rfl⟩)
        clear k0 k1 k2 k3 k4 k5
        go_cut [11] (fun s11 wx => s11 = .int .i64 (phs a b) ∧ Hid (Ext w6 wx))
        case first =>
          by_cases h : 0 ≤ u'
          · have hu : decide (0 ≤ u') = true := decide_eq_true h
            have H : Hid (0 ≤ u') := h
            go_wp2_with fail
            go_meet
            exact ⟨by rw [HPH.out, if_pos H.out], Ext.refl _⟩
          · have hu : decide (0 ≤ u') = false := decide_eq_false h
            have H : Hid (¬ 0 ≤ u') := h
            clear h
            go_wp2_with fail
            go_meet
            exact ⟨by rw [HPH.out, if_neg (show ¬ 0 ≤ u' from Int.not_le.2 H.out)], Ext.refl _⟩
        case rest =>
          obtain ⟨rfl, hX⟩ := hcut
          have b7 := hX.out
          generalize wc = w7 at *
          clear hX HPH HP HU
          go_upto_region 8 with (fail)
          have L1 := Lib.hid (K1.out.ext (Ext.trans b3 (Ext.trans b4 (Ext.trans b5 (Ext.trans b6 b7)))))
          have L2 := Lib.hid (K2.out.ext (Ext.trans b3 (Ext.trans b4 (Ext.trans b5 (Ext.trans b6 b7)))))
          have L3 := Lib.hid (K3.out.ext (Ext.trans b3 (Ext.trans b4 (Ext.trans b5 (Ext.trans b6 b7)))))
          have L4 := Lib.hid (K4.out.ext (Ext.trans b4 (Ext.trans b5 (Ext.trans b6 b7))))
          have MA := Lib.hid (RA.out.ext (Ext.trans b3 (Ext.trans b4 (Ext.trans b5 (Ext.trans b6 b7)))))
          have MC := Lib.hid (RC.out.ext (Ext.trans b3 (Ext.trans b4 (Ext.trans b5 (Ext.trans b6 b7)))))
          have MR := Lib.hid (RR.out.ext (Ext.trans b3 (Ext.trans b4 (Ext.trans b5 (Ext.trans b6 b7)))))
          have MS := Lib.hid (RS.out.ext (Ext.trans b4 (Ext.trans b5 (Ext.trans b6 b7))))
          have PA := Lib.hid (QA.out.ext (Ext.trans b3 (Ext.trans b4 (Ext.trans b5 (Ext.trans b6 b7)))))
          have PB := Lib.hid (QB.out.ext (Ext.trans b3 (Ext.trans b4 (Ext.trans b5 (Ext.trans b6 b7)))))
          have b17 := (Ext.trans b3 (Ext.trans b4 (Ext.trans b5 (Ext.trans b6 b7))))
          have b07 := Ext.trans (Ext.trans b1 b2) b17
          clear K1 K2 K3 K4 RA RC RR RS QA QB QC QD KB KC b1 b2 b3 b4 b5 b6 b7 b17 HSG
          have HSC : Hid (∀ w va vb, RdQ w va r → RdD w vb a b → Calls Try.prog 38 #[va, vb] w (Gives w fun v' w' => OwnD 148 w.heap.size w' v' (mn (r * a) (r * b)) (mx (r * a) (r * b)))) := fun w va vb h1 h2 => sscale_any h1 h2 (SE.out.le (by decide)) (SA.out.le (by decide)) (SB.out.le (by decide))
          have HAD : Hid (∀ w va vb, RdD w va a b → RdD w vb c d → Calls Try.prog 39 #[va, vb] w (Gives w fun v' w' => OwnD 148 w.heap.size w' v' (a + c) (b + d))) := fun w va vb h1 h2 => sadd_any h1 h2 (SA.out.le (by decide)) (SB.out.le (by decide)) (SC.out.le (by decide)) (SD.out.le (by decide))
          have HRE : Hid (∀ w v, RdD w v a b → Calls Try.prog 40 #[v] w (Gives w fun v' w' => RdD w' v' (mx a 0) (mx b 0))) := fun w v h => srelu_any h (SA.out.le (by decide)) (SB.out.le (by decide))
          have HTR : Hid (∀ w v, RdQ w v r → Calls Try.prog 42 #[v] w (Gives w fun v' w' => OwnP 4 w.heap.size w' v' r)) := fun w v h => told_any h (SE.out.le (by decide))
          have HO1 : Hid (∀ w v, RdD w v a b → Calls Try.prog 43 #[v] w (Gives w fun v' w' => OwnE 4 0 w' v' a b)) := fun w v h => one17_any h (SA.out.le (by decide)) (SB.out.le (by decide))
          have HO2 : Hid (∀ w v, RdD w v (a + c) (b + d) → Calls Try.prog 43 #[v] w (Gives w fun v' w' => OwnE 4 0 w' v' (a + c) (b + d))) := fun w v h => one17_any h ((SA.out.add SC.out).le (by decide)) ((SB.out.add SD.out).le (by decide))
          have HRS : Hid (∀ w va vb, RdP w va r → RdE w vb a b → Calls Try.prog 41 #[va, vb] w (Gives w fun v' w' => OwnE 4 w.heap.size w' v' (mn (r * a) (r * b)) (mx (r * a) (r * b)))) := fun w va vb h1 h2 => r17scale_any h1 h2 (SE.out.bits.le (by decide)) (SA.out.bits.le (by decide)) (SB.out.bits.le (by decide)) ((SE.out.mul SA.out).bits.le (by decide)) ((SE.out.mul SB.out).bits.le (by decide))
          have HRR : Hid (∀ w v, RdE w v a b → Calls Try.prog 44 #[v] w (Gives w fun v' w' => RdE w' v' (mx a 0) (mx b 0))) := fun w v h => r17relu_any h (SA.out.bits.le (by decide)) (SB.out.bits.le (by decide))
          have HCK : Hid (∀ w v, RdD w v a b → Calls Try.prog 45 #[v] w (Gives w fun v' _ => v' = .bool (decide ((a - b).num.sign ≤ 0)))) := fun w v h => scheck_any h (SA.out.le (by decide)) (SB.out.le (by decide))
          have HC1 : Hid (∀ w va vb, RdQ w va a → RdQ w vb b → Calls Try.prog 46 #[va, vb] w (Gives w fun v' _ => v' = .int .i64 (a - b).num.sign)) := fun w va vb h1 h2 => rcmp_any h1 h2 (SA.out.le (by decide)) (SB.out.le (by decide))
          have HHS : Hid (∀ w va vb, RdD w va a b → RdQ w vb r → Calls Try.prog 47 #[va, vb] w (Gives w fun v' _ => v' = .bool (decide ((a - r).num.sign ≤ 0) && decide ((r - b).num.sign ≤ 0)))) := fun w va vb h1 h2 => shas_any h1 h2 (SA.out.le (by decide)) (SB.out.le (by decide)) (SE.out.le (by decide))
          have HC2 : Hid (∀ w va vb, RdQ w va a → RdQ w vb r → Calls Try.prog 46 #[va, vb] w (Gives w fun v' _ => v' = .int .i64 (a - r).num.sign)) := fun w va vb h1 h2 => rcmp_any h1 h2 (SA.out.le (by decide)) (SE.out.le (by decide))
          have HC3 : Hid (∀ w va vb, RdQ w va r → RdQ w vb b → Calls Try.prog 46 #[va, vb] w (Gives w fun v' _ => v' = .int .i64 (r - b).num.sign)) := fun w va vb h1 h2 => rcmp_any h1 h2 (SE.out.le (by decide)) (SB.out.le (by decide))
          have HPS : Hid (∀ w v, RdD w v a b → Calls Try.prog 48 #[v] w (Gives w fun v' _ => v' = .int .i64 (phs a b))) := fun w v h => sphase_any h
          have SM1 : Hid (Sz 17 (mn (r * a) (r * b))) := Sz.mn ((SE.out.mul SA.out).le (by decide)) ((SE.out.mul SB.out).le (by decide))
          have SM2 : Hid (Sz 17 (mx (r * a) (r * b))) := Sz.mx ((SE.out.mul SA.out).le (by decide)) ((SE.out.mul SB.out).le (by decide))
          have SX1 : Hid (Sz 17 (mx a 0)) := Sz.mx (SA.out.le (by decide)) (Sz.zero.le (by decide))
          have SX2 : Hid (Sz 17 (mx b 0)) := Sz.mx (SB.out.le (by decide)) (Sz.zero.le (by decide))
          have SH1 : Hid (Sz 17 (a + c)) := (SA.out.add SC.out).le (by decide)
          have SH2 : Hid (Sz 17 (b + d)) := (SB.out.add SD.out).le (by decide)
          generalize mn (r * a) (r * b) = m1 at *
          generalize mx (r * a) (r * b) = m2 at *
          generalize mx a 0 = q1 at *
          generalize mx b 0 = q2 at *
          generalize a + c = hh at *
          generalize b + d = kk at *
          generalize (a - b).num.sign = p at *
          generalize (a - r).num.sign = t at *
          generalize (r - b).num.sign = s at *
          generalize phs a b = f at *
          have HTD : Hid (∀ w v, RdRow 6 RdDp w v [(m1, m2), (hh, kk), (q1, q2)] → Calls Try.prog 37 #[v] w (Gives w fun v' w' => OwnRow 6 (OwnEp 4) 69 w.heap.size w' v' [(m1, m2), (hh, kk), (q1, q2)])) := fun w v h => told17_any h (by
            intro p hp
            simp at hp
            rcases hp with rfl | rfl | rfl
            · exact ⟨SM1.out.le (by decide), SM2.out.le (by decide)⟩
            · exact ⟨SH1.out.le (by decide), SH2.out.le (by decide)⟩
            · exact ⟨SX1.out.le (by decide), SX2.out.le (by decide)⟩) (by simp)
          have HSM : Hid (∀ w va vb, RdRow 6 RdEp w va [(m1, m2), (hh, kk), (q1, q2)] → RdRow 6 RdEp w vb [(m1, m2), (hh, kk), (q1, q2)] → Calls Try.prog 36 #[va, vb] w (Gives w fun v' _ => v' = .bool true)) := fun w va vb h1 h2 => same17_yes h1 h2 (by
            intro p hp
            simp at hp
            rcases hp with rfl | rfl | rfl
            · exact ⟨SM1.out.bits.le (by decide), SM2.out.bits.le (by decide)⟩
            · exact ⟨SH1.out.bits.le (by decide), SH2.out.bits.le (by decide)⟩
            · exact ⟨SX1.out.bits.le (by decide), SX2.out.bits.le (by decide)⟩)
          clear SA SB SC SD SE SM1 SM2 SX1 SX2 SH1 SH2
          by_cases ht : t ≤ 0
          · have htt : decide (t ≤ 0) = true := decide_eq_true ht
            clear ht
            have b8 := drew_ext w7
            have XE := b8
            refine wp_region_noPanic ?_
            refine wp_region_held_drew (S := fun w' => (w'.cell? ⟨B, 0, none⟩ = some (x0) ∧ w'.cell? ⟨B, 1, none⟩ = some (x1) ∧ w'.cell? ⟨B, 2, none⟩ = some (x2) ∧ w'.cell? ⟨B, 3, none⟩ = some (x3) ∧ w'.cell? ⟨B, 4, none⟩ = some (x4) ∧ w'.cell? ⟨B, 5, none⟩ = some (x5)) ∧ (w'.cell? ⟨C, 0, none⟩ = some (y0) ∧ w'.cell? ⟨C, 1, none⟩ = some (y1) ∧ w'.cell? ⟨C, 2, none⟩ = some (y2) ∧ w'.cell? ⟨C, 3, none⟩ = some (y3) ∧ w'.cell? ⟨C, 4, none⟩ = some (y4) ∧ w'.cell? ⟨C, 5, none⟩ = some (y5)) ∧ (w'.cell? ⟨D, 0, none⟩ = some (z0) ∧ w'.cell? ⟨D, 1, none⟩ = some (z1) ∧ w'.cell? ⟨D, 2, none⟩ = some (z2)) ∧ (w'.cell? ⟨E, 0, none⟩ = some (h0) ∧ w'.cell? ⟨E, 1, none⟩ = some (h1) ∧ w'.cell? ⟨E, 2, none⟩ = some (h2) ∧ w'.cell? ⟨E, 3, none⟩ = some (h3) ∧ w'.cell? ⟨E, 4, none⟩ = some (h4) ∧ w'.cell? ⟨E, 5, none⟩ = some (h5))) (by kernel_rfl) (⟨(L1.out.ext XE).c6, (L2.out.ext XE).c6, (L3.out.ext XE).c3, (L4.out.ext XE).c6⟩) (fun hHeld => ?_)
            refine wpAnyH_ready (rs := [0]) (by kernel_rfl) (by simp) ?_
            refine AllReadyH.cons (o := _) rfl (fun K hK => ?_) AllReadyH.nil
            go_simp
            go_at_call 35; refine (awake17).mono ?_; rintro e w9 ⟨_, rfl, b9, rfl⟩; (first | have XE := Ext.trans XE b9 | have XE := Ext.trans (Ext.trans XE (Ext.alloc _ _)) b9)
            go_wp2_with fail
            refine hK.out _ _ (⟨(L1.out.ext XE).c6, (L2.out.ext XE).c6, (L3.out.ext XE).c3, (L4.out.ext XE).c6⟩) (fun hHeld => ?_)
            clear hK K
            try simp only [Act.put, List.getElem_toArray, List.getElem_cons_succ, List.getElem_cons_zero, List.setIfInBounds_toArray, List.set_cons_zero, List.set_cons_succ]
            refine wpAnyH_take (i := 1) (v := ?_) rfl (by kernel_rfl) (by kernel_rfl) (by kernel_rfl) (fun _ _ _ h => h) (Or.inl ⟨by rfl, fun w0 hSw => ?_⟩) hHeld ?_
            rotate_left
            · (try dsimp only at hSw)
              go_simp
              try with_reducible rfl
            simp only [Act.put, List.getElem_toArray, List.getElem_cons_succ, List.getElem_cons_zero, List.setIfInBounds_toArray, List.set_cons_zero, List.set_cons_succ]
            refine wpAnyH_take (i := 2) (v := ?_) rfl (by kernel_rfl) (by kernel_rfl) (by kernel_rfl) (fun _ _ _ h => h) (Or.inl ⟨by rfl, fun w0 hSw => ?_⟩) hHeld ?_
            rotate_left
            · (try dsimp only at hSw)
              go_simp
              try with_reducible rfl
            simp only [Act.put, List.getElem_toArray, List.getElem_cons_succ, List.getElem_cons_zero, List.setIfInBounds_toArray, List.set_cons_zero, List.set_cons_succ]
            refine wpAnyH_take (i := 3) (v := ?_) rfl (by kernel_rfl) (by kernel_rfl) (by kernel_rfl) (fun _ _ _ h => h) (Or.inl ⟨by rfl, fun w0 hSw => ?_⟩) hHeld ?_
            rotate_left
            · (try dsimp only at hSw)
              go_simp
              try with_reducible rfl
            simp only [Act.put, List.getElem_toArray, List.getElem_cons_succ, List.getElem_cons_zero, List.setIfInBounds_toArray, List.set_cons_zero, List.set_cons_succ]
            refine wpAnyH_take (i := 5) (v := ?_) rfl (by kernel_rfl) (by kernel_rfl) (by kernel_rfl) (fun _ _ _ h => h) (Or.inl ⟨by rfl, fun w0 hSw => ?_⟩) hHeld ?_
            rotate_left
            · (try dsimp only at hSw)
              go_simp
              try with_reducible rfl
            simp only [Act.put, List.getElem_toArray, List.getElem_cons_succ, List.getElem_cons_zero, List.setIfInBounds_toArray, List.set_cons_zero, List.set_cons_succ]
            refine wpAnyH_take (i := 6) (v := ?_) rfl (by kernel_rfl) (by kernel_rfl) (by kernel_rfl) (fun _ _ _ h => h) (Or.inl ⟨by rfl, fun w0 hSw => ?_⟩) hHeld ?_
            rotate_left
            · (try dsimp only at hSw)
              go_simp
              try with_reducible rfl
            simp only [Act.put, List.getElem_toArray, List.getElem_cons_succ, List.getElem_cons_zero, List.setIfInBounds_toArray, List.set_cons_zero, List.set_cons_succ]
            refine wpAnyH_take (i := 8) (v := ?_) rfl (by kernel_rfl) (by kernel_rfl) (by kernel_rfl) (fun _ _ _ h => h) (Or.inl ⟨by rfl, fun w0 hSw => ?_⟩) hHeld ?_
            rotate_left
            · (try dsimp only at hSw)
              go_simp
              try with_reducible rfl
            simp only [Act.put, List.getElem_toArray, List.getElem_cons_succ, List.getElem_cons_zero, List.setIfInBounds_toArray, List.set_cons_zero, List.set_cons_succ]
            refine wpAnyH_take (i := 12) (v := ?_) rfl (by kernel_rfl) (by kernel_rfl) (by kernel_rfl) (fun _ _ _ h => h) (Or.inl ⟨by rfl, fun w0 hSw => ?_⟩) hHeld ?_
            rotate_left
            · (try dsimp only at hSw)
              go_simp
              try with_reducible rfl
            simp only [Act.put, List.getElem_toArray, List.getElem_cons_succ, List.getElem_cons_zero, List.setIfInBounds_toArray, List.set_cons_zero, List.set_cons_succ]
            refine wpAnyH_take (i := 14) (v := ?_) rfl (by kernel_rfl) (by kernel_rfl) (by kernel_rfl) (fun _ _ _ h => h) (Or.inl ⟨by rfl, fun w0 hSw => ?_⟩) hHeld ?_
            rotate_left
            · (try dsimp only at hSw)
              go_simp
              try with_reducible rfl
            simp only [Act.put, List.getElem_toArray, List.getElem_cons_succ, List.getElem_cons_zero, List.setIfInBounds_toArray, List.set_cons_zero, List.set_cons_succ]
            refine wpAnyH_take (i := 17) (v := ?_) rfl (by kernel_rfl) (by kernel_rfl) (by kernel_rfl) (fun _ _ _ h => h) (Or.inl ⟨by rfl, fun w0 hSw => ?_⟩) hHeld ?_
            rotate_left
            · (try dsimp only at hSw)
              go_simp
              try with_reducible rfl
            simp only [Act.put, List.getElem_toArray, List.getElem_cons_succ, List.getElem_cons_zero, List.setIfInBounds_toArray, List.set_cons_zero, List.set_cons_succ]
            refine wpAnyH_take (i := 19) (v := ?_) rfl (by kernel_rfl) (by kernel_rfl) (by kernel_rfl) (fun _ _ _ h => h) (Or.inl ⟨by rfl, fun w0 hSw => ?_⟩) hHeld ?_
            rotate_left
            · (try dsimp only at hSw)
              go_simp
              try with_reducible rfl
            simp only [Act.put, List.getElem_toArray, List.getElem_cons_succ, List.getElem_cons_zero, List.setIfInBounds_toArray, List.set_cons_zero, List.set_cons_succ]
            refine wpAnyH_ready (rs := [4]) (by kernel_rfl) (by simp) ?_
            refine AllReadyH.cons (o := _) rfl (fun K hK => ?_) AllReadyH.nil
            go_simp
            go_at_call 38; refine (HSC.out _ _ _ (MR.out.ext (Ext.trans b8 b9)) (MA.out.ext (Ext.trans b8 b9))).mono ?_; rintro e w10 ⟨v10, rfl, b10, o10⟩; have O10 := Lib.hid o10; clear o10; (first | have XE := Ext.trans XE b10 | have XE := Ext.trans (Ext.trans XE (Ext.alloc _ _)) b10); obtain ⟨m0', m1', m2', m3', m4', m5', rfl, -, -⟩ := O10.out.rd; have R10 := Lib.hid O10.out.rd
            go_wp2_with fail
            refine hK.out _ _ (⟨(L1.out.ext XE).c6, (L2.out.ext XE).c6, (L3.out.ext XE).c3, (L4.out.ext XE).c6⟩) (fun hHeld => ?_)
            clear hK K
            try simp only [Act.put, List.getElem_toArray, List.getElem_cons_succ, List.getElem_cons_zero, List.setIfInBounds_toArray, List.set_cons_zero, List.set_cons_succ]
            refine wpAnyH_ready (rs := [7]) (by kernel_rfl) (by simp) ?_
            refine AllReadyH.cons (o := _) rfl (fun K hK => ?_) AllReadyH.nil
            go_simp
            go_at_call 39; refine (HAD.out _ _ _ (MA.out.ext (Ext.trans b8 (Ext.trans b9 b10))) (MC.out.ext (Ext.trans b8 (Ext.trans b9 b10)))).mono ?_; rintro e w11 ⟨v11, rfl, b11, o11⟩; have O11 := Lib.hid o11; clear o11; (first | have XE := Ext.trans XE b11 | have XE := Ext.trans (Ext.trans XE (Ext.alloc _ _)) b11); obtain ⟨n0', n1', n2', n3', n4', n5', rfl, -, -⟩ := O11.out.rd; have R11 := Lib.hid O11.out.rd
            go_wp2_with fail
            refine hK.out _ _ (⟨(L1.out.ext XE).c6, (L2.out.ext XE).c6, (L3.out.ext XE).c3, (L4.out.ext XE).c6⟩) (fun hHeld => ?_)
            clear hK K
            try simp only [Act.put, List.getElem_toArray, List.getElem_cons_succ, List.getElem_cons_zero, List.setIfInBounds_toArray, List.set_cons_zero, List.set_cons_succ]
            refine wpAnyH_ready (rs := [9]) (by kernel_rfl) (by simp) ?_
            refine AllReadyH.cons (o := _) rfl (fun K hK => ?_) AllReadyH.nil
            go_simp
            go_at_call 40; refine (HRE.out _ _ (MA.out.ext (Ext.trans b8 (Ext.trans b9 (Ext.trans b10 b11))))).mono ?_; rintro e w12 ⟨v12, rfl, b12, o12⟩; have O12 := Lib.hid o12; clear o12; (first | have XE := Ext.trans XE b12 | have XE := Ext.trans (Ext.trans XE (Ext.alloc _ _)) b12); have R12 := O12; obtain ⟨l0', l1', l2', l3', l4', l5', rfl, -, -⟩ := R12.out
            go_wp2_with fail
            refine hK.out _ _ (⟨(L1.out.ext XE).c6, (L2.out.ext XE).c6, (L3.out.ext XE).c3, (L4.out.ext XE).c6⟩) (fun hHeld => ?_)
            clear hK K
            try simp only [Act.put, List.getElem_toArray, List.getElem_cons_succ, List.getElem_cons_zero, List.setIfInBounds_toArray, List.set_cons_zero, List.set_cons_succ]
            refine wpAnyH_ready (rs := [10]) (by kernel_rfl) (by simp) ?_
            refine AllReadyH.cons (o := _) rfl (fun K hK => ?_) AllReadyH.nil
            go_simp
            refine hK.out _ _ (⟨(L1.out.ext (Ext.trans XE (Ext.alloc _ _))).c6, (L2.out.ext (Ext.trans XE (Ext.alloc _ _))).c6, (L3.out.ext (Ext.trans XE (Ext.alloc _ _))).c3, (L4.out.ext (Ext.trans XE (Ext.alloc _ _))).c6⟩) (fun hHeld => ?_)
            clear hK K
            try simp only [Act.put, List.getElem_toArray, List.getElem_cons_succ, List.getElem_cons_zero, List.setIfInBounds_toArray, List.set_cons_zero, List.set_cons_succ]
            refine wpAnyH_ready (rs := [11]) (by kernel_rfl) (by simp) ?_
            refine AllReadyH.cons (o := _) rfl (fun K hK => ?_) AllReadyH.nil
            go_simp
            go_at_call 37; refine (HTD.out _ _ (RdRow.lit w12 [[m0', m1', m2', m3', m4', m5'], [n0', n1', n2', n3', n4', n5'], [l0', l1', l2', l3', l4', l5']] _ ⟨⟨rfl, R10.out.ext (Ext.trans b11 b12)⟩, ⟨rfl, R11.out.ext b12⟩, ⟨rfl, R12.out⟩, trivial⟩ RdDp.ext (by unfold maxLen <;> simp))).mono ?_; rintro e w13 ⟨v13, rfl, b13, o13⟩; have O13 := Lib.hid o13; clear o13; (first | have XE := Ext.trans XE b13 | have XE := Ext.trans (Ext.trans XE (Ext.alloc _ _)) b13)
            go_wp2_with fail
            refine hK.out _ _ (⟨(L1.out.ext XE).c6, (L2.out.ext XE).c6, (L3.out.ext XE).c3, (L4.out.ext XE).c6⟩) (fun hHeld => ?_)
            clear hK K
            try simp only [Act.put, List.getElem_toArray, List.getElem_cons_succ, List.getElem_cons_zero, List.setIfInBounds_toArray, List.set_cons_zero, List.set_cons_succ]
            refine wpAnyH_ready (rs := [13]) (by kernel_rfl) (by simp) ?_
            refine AllReadyH.cons (o := _) rfl (fun K hK => ?_) AllReadyH.nil
            go_simp
            go_at_call 42; refine (HTR.out _ _ (MR.out.ext (by repeat (first | exact Ext.refl _ | refine Ext.trans ?_ (Ext.alloc _ _) | refine Ext.trans ?_ (drew_ext _) | refine Ext.trans ?_ ba | refine Ext.trans ?_ b40 | refine Ext.trans ?_ b39 | refine Ext.trans ?_ b38 | refine Ext.trans ?_ b37 | refine Ext.trans ?_ b36 | refine Ext.trans ?_ b35 | refine Ext.trans ?_ b34 | refine Ext.trans ?_ b33 | refine Ext.trans ?_ b32 | refine Ext.trans ?_ b31 | refine Ext.trans ?_ b30 | refine Ext.trans ?_ b29 | refine Ext.trans ?_ b28 | refine Ext.trans ?_ b27 | refine Ext.trans ?_ b26 | refine Ext.trans ?_ b25 | refine Ext.trans ?_ b24 | refine Ext.trans ?_ b23 | refine Ext.trans ?_ b22 | refine Ext.trans ?_ b21 | refine Ext.trans ?_ b20 | refine Ext.trans ?_ b19 | refine Ext.trans ?_ b18 | refine Ext.trans ?_ b17 | refine Ext.trans ?_ b16 | refine Ext.trans ?_ b15 | refine Ext.trans ?_ b14 | refine Ext.trans ?_ b13 | refine Ext.trans ?_ b12 | refine Ext.trans ?_ b11 | refine Ext.trans ?_ b10 | refine Ext.trans ?_ b9 | refine Ext.trans ?_ b8 | refine Ext.trans ?_ b7 | refine Ext.trans ?_ b6 | refine Ext.trans ?_ b5 | refine Ext.trans ?_ b4 | refine Ext.trans ?_ b3 | refine Ext.trans ?_ b2 | refine Ext.trans ?_ b1)))).mono ?_; rintro e w14 ⟨v14, rfl, b14, o14⟩; have O14 := Lib.hid o14; clear o14; (first | have XE := Ext.trans XE b14 | have XE := Ext.trans (Ext.trans XE (Ext.alloc _ _)) b14)
            go_wp2_with fail
            refine hK.out _ _ (⟨(L1.out.ext XE).c6, (L2.out.ext XE).c6, (L3.out.ext XE).c3, (L4.out.ext XE).c6⟩) (fun hHeld => ?_)
            clear hK K
            try simp only [Act.put, List.getElem_toArray, List.getElem_cons_succ, List.getElem_cons_zero, List.setIfInBounds_toArray, List.set_cons_zero, List.set_cons_succ]
            refine wpAnyH_ready (rs := [15]) (by kernel_rfl) (by simp) ?_
            refine AllReadyH.cons (o := _) rfl (fun K hK => ?_) AllReadyH.nil
            go_simp
            go_at_call 43; refine (HO1.out _ _ (MA.out.ext (by repeat (first | exact Ext.refl _ | refine Ext.trans ?_ (Ext.alloc _ _) | refine Ext.trans ?_ (drew_ext _) | refine Ext.trans ?_ ba | refine Ext.trans ?_ b40 | refine Ext.trans ?_ b39 | refine Ext.trans ?_ b38 | refine Ext.trans ?_ b37 | refine Ext.trans ?_ b36 | refine Ext.trans ?_ b35 | refine Ext.trans ?_ b34 | refine Ext.trans ?_ b33 | refine Ext.trans ?_ b32 | refine Ext.trans ?_ b31 | refine Ext.trans ?_ b30 | refine Ext.trans ?_ b29 | refine Ext.trans ?_ b28 | refine Ext.trans ?_ b27 | refine Ext.trans ?_ b26 | refine Ext.trans ?_ b25 | refine Ext.trans ?_ b24 | refine Ext.trans ?_ b23 | refine Ext.trans ?_ b22 | refine Ext.trans ?_ b21 | refine Ext.trans ?_ b20 | refine Ext.trans ?_ b19 | refine Ext.trans ?_ b18 | refine Ext.trans ?_ b17 | refine Ext.trans ?_ b16 | refine Ext.trans ?_ b15 | refine Ext.trans ?_ b14 | refine Ext.trans ?_ b13 | refine Ext.trans ?_ b12 | refine Ext.trans ?_ b11 | refine Ext.trans ?_ b10 | refine Ext.trans ?_ b9 | refine Ext.trans ?_ b8 | refine Ext.trans ?_ b7 | refine Ext.trans ?_ b6 | refine Ext.trans ?_ b5 | refine Ext.trans ?_ b4 | refine Ext.trans ?_ b3 | refine Ext.trans ?_ b2 | refine Ext.trans ?_ b1)))).mono ?_; rintro e w15 ⟨v15, rfl, b15, o15⟩; have O15 := Lib.hid o15; clear o15; (first | have XE := Ext.trans XE b15 | have XE := Ext.trans (Ext.trans XE (Ext.alloc _ _)) b15)
            go_wp2_with fail
            refine hK.out _ _ (⟨(L1.out.ext XE).c6, (L2.out.ext XE).c6, (L3.out.ext XE).c3, (L4.out.ext XE).c6⟩) (fun hHeld => ?_)
            clear hK K
            try simp only [Act.put, List.getElem_toArray, List.getElem_cons_succ, List.getElem_cons_zero, List.setIfInBounds_toArray, List.set_cons_zero, List.set_cons_succ]
            refine wpAnyH_ready (rs := [16]) (by kernel_rfl) (by simp) ?_
            refine AllReadyH.cons (o := _) rfl (fun K hK => ?_) AllReadyH.nil
            go_simp
            go_at_call 41; refine (HRS.out _ _ _ (O14.out.rd.ext b15) O15.out.rd).mono ?_; rintro e w16 ⟨v16, rfl, b16, o16⟩; have O16 := Lib.hid o16; clear o16; (first | have XE := Ext.trans XE b16 | have XE := Ext.trans (Ext.trans XE (Ext.alloc _ _)) b16); obtain ⟨m0, mm1, mm2, m3, m4, m5, rfl, -, -⟩ := O16.out.rd; have R16 := Lib.hid O16.out.rd
            go_wp2_with fail
            refine hK.out _ _ (⟨(L1.out.ext XE).c6, (L2.out.ext XE).c6, (L3.out.ext XE).c3, (L4.out.ext XE).c6⟩) (fun hHeld => ?_)
            clear hK K
            try simp only [Act.put, List.getElem_toArray, List.getElem_cons_succ, List.getElem_cons_zero, List.setIfInBounds_toArray, List.set_cons_zero, List.set_cons_succ]
            refine wpAnyH_ready (rs := [18]) (by kernel_rfl) (by simp) ?_
            refine AllReadyH.cons (o := _) rfl (fun K hK => ?_) AllReadyH.nil
            go_simp
            go_at_call 43; refine (HO2.out _ _ (MS.out.ext (by repeat (first | exact Ext.refl _ | refine Ext.trans ?_ (Ext.alloc _ _) | refine Ext.trans ?_ (drew_ext _) | refine Ext.trans ?_ ba | refine Ext.trans ?_ b40 | refine Ext.trans ?_ b39 | refine Ext.trans ?_ b38 | refine Ext.trans ?_ b37 | refine Ext.trans ?_ b36 | refine Ext.trans ?_ b35 | refine Ext.trans ?_ b34 | refine Ext.trans ?_ b33 | refine Ext.trans ?_ b32 | refine Ext.trans ?_ b31 | refine Ext.trans ?_ b30 | refine Ext.trans ?_ b29 | refine Ext.trans ?_ b28 | refine Ext.trans ?_ b27 | refine Ext.trans ?_ b26 | refine Ext.trans ?_ b25 | refine Ext.trans ?_ b24 | refine Ext.trans ?_ b23 | refine Ext.trans ?_ b22 | refine Ext.trans ?_ b21 | refine Ext.trans ?_ b20 | refine Ext.trans ?_ b19 | refine Ext.trans ?_ b18 | refine Ext.trans ?_ b17 | refine Ext.trans ?_ b16 | refine Ext.trans ?_ b15 | refine Ext.trans ?_ b14 | refine Ext.trans ?_ b13 | refine Ext.trans ?_ b12 | refine Ext.trans ?_ b11 | refine Ext.trans ?_ b10 | refine Ext.trans ?_ b9 | refine Ext.trans ?_ b8 | refine Ext.trans ?_ b7 | refine Ext.trans ?_ b6 | refine Ext.trans ?_ b5 | refine Ext.trans ?_ b4 | refine Ext.trans ?_ b3 | refine Ext.trans ?_ b2 | refine Ext.trans ?_ b1)))).mono ?_; rintro e w17 ⟨v17, rfl, b17, o17⟩; have O17 := Lib.hid o17; clear o17; (first | have XE := Ext.trans XE b17 | have XE := Ext.trans (Ext.trans XE (Ext.alloc _ _)) b17); obtain ⟨n0, n1, n2, n3, n4, n5, rfl, -, -⟩ := O17.out.rd; have R17 := Lib.hid O17.out.rd
            go_wp2_with fail
            refine hK.out _ _ (⟨(L1.out.ext XE).c6, (L2.out.ext XE).c6, (L3.out.ext XE).c3, (L4.out.ext XE).c6⟩) (fun hHeld => ?_)
            clear hK K
            try simp only [Act.put, List.getElem_toArray, List.getElem_cons_succ, List.getElem_cons_zero, List.setIfInBounds_toArray, List.set_cons_zero, List.set_cons_succ]
            refine wpAnyH_ready (rs := [20]) (by kernel_rfl) (by simp) ?_
            refine AllReadyH.cons (o := _) rfl (fun K hK => ?_) AllReadyH.nil
            go_simp
            go_at_call 43; refine (HO1.out _ _ (MA.out.ext (by repeat (first | exact Ext.refl _ | refine Ext.trans ?_ (Ext.alloc _ _) | refine Ext.trans ?_ (drew_ext _) | refine Ext.trans ?_ ba | refine Ext.trans ?_ b40 | refine Ext.trans ?_ b39 | refine Ext.trans ?_ b38 | refine Ext.trans ?_ b37 | refine Ext.trans ?_ b36 | refine Ext.trans ?_ b35 | refine Ext.trans ?_ b34 | refine Ext.trans ?_ b33 | refine Ext.trans ?_ b32 | refine Ext.trans ?_ b31 | refine Ext.trans ?_ b30 | refine Ext.trans ?_ b29 | refine Ext.trans ?_ b28 | refine Ext.trans ?_ b27 | refine Ext.trans ?_ b26 | refine Ext.trans ?_ b25 | refine Ext.trans ?_ b24 | refine Ext.trans ?_ b23 | refine Ext.trans ?_ b22 | refine Ext.trans ?_ b21 | refine Ext.trans ?_ b20 | refine Ext.trans ?_ b19 | refine Ext.trans ?_ b18 | refine Ext.trans ?_ b17 | refine Ext.trans ?_ b16 | refine Ext.trans ?_ b15 | refine Ext.trans ?_ b14 | refine Ext.trans ?_ b13 | refine Ext.trans ?_ b12 | refine Ext.trans ?_ b11 | refine Ext.trans ?_ b10 | refine Ext.trans ?_ b9 | refine Ext.trans ?_ b8 | refine Ext.trans ?_ b7 | refine Ext.trans ?_ b6 | refine Ext.trans ?_ b5 | refine Ext.trans ?_ b4 | refine Ext.trans ?_ b3 | refine Ext.trans ?_ b2 | refine Ext.trans ?_ b1)))).mono ?_; rintro e w18 ⟨v18, rfl, b18, o18⟩; have O18 := Lib.hid o18; clear o18; (first | have XE := Ext.trans XE b18 | have XE := Ext.trans (Ext.trans XE (Ext.alloc _ _)) b18)
            go_wp2_with fail
            refine hK.out _ _ (⟨(L1.out.ext XE).c6, (L2.out.ext XE).c6, (L3.out.ext XE).c3, (L4.out.ext XE).c6⟩) (fun hHeld => ?_)
            clear hK K
            try simp only [Act.put, List.getElem_toArray, List.getElem_cons_succ, List.getElem_cons_zero, List.setIfInBounds_toArray, List.set_cons_zero, List.set_cons_succ]
            refine wpAnyH_ready (rs := [21]) (by kernel_rfl) (by simp) ?_
            refine AllReadyH.cons (o := _) rfl (fun K hK => ?_) AllReadyH.nil
            go_simp
            go_at_call 44; refine (HRR.out _ _ O18.out.rd).mono ?_; rintro e w19 ⟨v19, rfl, b19, o19⟩; have O19 := Lib.hid o19; clear o19; (first | have XE := Ext.trans XE b19 | have XE := Ext.trans (Ext.trans XE (Ext.alloc _ _)) b19); have R19 := O19; obtain ⟨l0, l1, l2, l3, l4, l5, rfl, -, -⟩ := R19.out
            go_wp2_with fail
            refine hK.out _ _ (⟨(L1.out.ext XE).c6, (L2.out.ext XE).c6, (L3.out.ext XE).c3, (L4.out.ext XE).c6⟩) (fun hHeld => ?_)
            clear hK K
            try simp only [Act.put, List.getElem_toArray, List.getElem_cons_succ, List.getElem_cons_zero, List.setIfInBounds_toArray, List.set_cons_zero, List.set_cons_succ]
            refine wpAnyH_ready (rs := [22]) (by kernel_rfl) (by simp) ?_
            refine AllReadyH.cons (o := _) rfl (fun K hK => ?_) AllReadyH.nil
            go_simp
            refine hK.out _ _ (⟨(L1.out.ext (Ext.trans XE (Ext.alloc _ _))).c6, (L2.out.ext (Ext.trans XE (Ext.alloc _ _))).c6, (L3.out.ext (Ext.trans XE (Ext.alloc _ _))).c3, (L4.out.ext (Ext.trans XE (Ext.alloc _ _))).c6⟩) (fun hHeld => ?_)
            clear hK K
            try simp only [Act.put, List.getElem_toArray, List.getElem_cons_succ, List.getElem_cons_zero, List.setIfInBounds_toArray, List.set_cons_zero, List.set_cons_succ]
            refine wpAnyH_ready (rs := [23]) (by kernel_rfl) (by simp) ?_
            refine AllReadyH.cons (o := _) rfl (fun K hK => ?_) AllReadyH.nil
            go_simp
            go_at_call 36; refine (HSM.out _ _ _ (RdRow.ext (RdRow.mono O13.out.rd (fun _ _ h => OwnE.rd h)) RdEp.ext (Ext.trans (Ext.trans b14 (Ext.trans b15 (Ext.trans b16 (Ext.trans b17 (Ext.trans b18 b19))))) (Ext.alloc _ _))) (RdRow.lit w19 [[m0, mm1, mm2, m3, m4, m5], [n0, n1, n2, n3, n4, n5], [l0, l1, l2, l3, l4, l5]] _ ⟨⟨rfl, R16.out.ext (Ext.trans b17 (Ext.trans b18 b19))⟩, ⟨rfl, R17.out.ext (Ext.trans b18 b19)⟩, ⟨rfl, R19.out⟩, trivial⟩ RdEp.ext (by unfold maxLen <;> simp))).mono ?_; rintro e w20 ⟨_, rfl, b20, rfl⟩; (first | have XE := Ext.trans XE b20 | have XE := Ext.trans (Ext.trans XE (Ext.alloc _ _)) b20)
            go_wp2_with fail
            refine hK.out _ _ (⟨(L1.out.ext XE).c6, (L2.out.ext XE).c6, (L3.out.ext XE).c3, (L4.out.ext XE).c6⟩) (fun hHeld => ?_)
            clear hK K
            try simp only [Act.put, List.getElem_toArray, List.getElem_cons_succ, List.getElem_cons_zero, List.setIfInBounds_toArray, List.set_cons_zero, List.set_cons_succ]
            refine wpAnyH_take (i := 24) (v := ?_) rfl (by kernel_rfl) (by kernel_rfl) (by kernel_rfl) (fun _ _ _ h => h) (Or.inl ⟨by rfl, fun w0 hSw => ?_⟩) hHeld ?_
            rotate_left
            · (try dsimp only at hSw)
              go_simp
              try with_reducible rfl
            simp only [Act.put, List.getElem_toArray, List.getElem_cons_succ, List.getElem_cons_zero, List.setIfInBounds_toArray, List.set_cons_zero, List.set_cons_succ]
            refine wpAnyH_take (i := 25) (v := ?_) rfl (by kernel_rfl) (by kernel_rfl) (by kernel_rfl) (fun _ _ _ h => h) (Or.inl ⟨by rfl, fun w0 hSw => ?_⟩) hHeld ?_
            rotate_left
            · (try dsimp only at hSw)
              go_simp
              try with_reducible rfl
            simp only [Act.put, List.getElem_toArray, List.getElem_cons_succ, List.getElem_cons_zero, List.setIfInBounds_toArray, List.set_cons_zero, List.set_cons_succ]
            refine wpAnyH_take (i := 26) (v := ?_) rfl (by kernel_rfl) (by kernel_rfl) (by kernel_rfl) (fun _ _ _ h => h) (Or.inl ⟨by rfl, fun w0 hSw => ?_⟩) hHeld ?_
            rotate_left
            · (try dsimp only at hSw)
              go_simp
              try with_reducible rfl
            simp only [Act.put, List.getElem_toArray, List.getElem_cons_succ, List.getElem_cons_zero, List.setIfInBounds_toArray, List.set_cons_zero, List.set_cons_succ]
            refine wpAnyH_take (i := 28) (v := ?_) rfl (by kernel_rfl) (by kernel_rfl) (by kernel_rfl) (fun _ _ _ h => h) (Or.inl ⟨by rfl, fun w0 hSw => ?_⟩) hHeld ?_
            rotate_left
            · (try dsimp only at hSw)
              go_simp
              try with_reducible rfl
            simp only [Act.put, List.getElem_toArray, List.getElem_cons_succ, List.getElem_cons_zero, List.setIfInBounds_toArray, List.set_cons_zero, List.set_cons_succ]
            refine wpAnyH_take (i := 29) (v := ?_) rfl (by kernel_rfl) (by kernel_rfl) (by kernel_rfl) (fun _ _ _ h => h) (Or.inl ⟨by rfl, fun w0 hSw => ?_⟩) hHeld ?_
            rotate_left
            · (try dsimp only at hSw)
              go_simp
              try with_reducible rfl
            simp only [Act.put, List.getElem_toArray, List.getElem_cons_succ, List.getElem_cons_zero, List.setIfInBounds_toArray, List.set_cons_zero, List.set_cons_succ]
            refine wpAnyH_take (i := 30) (v := ?_) rfl (by kernel_rfl) (by kernel_rfl) (by kernel_rfl) (fun _ _ _ h => h) (Or.inl ⟨by rfl, fun w0 hSw => ?_⟩) hHeld ?_
            rotate_left
            · (try dsimp only at hSw)
              go_simp
              try with_reducible rfl
            simp only [Act.put, List.getElem_toArray, List.getElem_cons_succ, List.getElem_cons_zero, List.setIfInBounds_toArray, List.set_cons_zero, List.set_cons_succ]
            refine wpAnyH_take (i := 31) (v := ?_) rfl (by kernel_rfl) (by kernel_rfl) (by kernel_rfl) (fun _ _ _ h => h) (Or.inl ⟨by rfl, fun w0 hSw => ?_⟩) hHeld ?_
            rotate_left
            · (try dsimp only at hSw)
              go_simp
              try with_reducible rfl
            simp only [Act.put, List.getElem_toArray, List.getElem_cons_succ, List.getElem_cons_zero, List.setIfInBounds_toArray, List.set_cons_zero, List.set_cons_succ]
            refine wpAnyH_ready (rs := [27]) (by kernel_rfl) (by simp) ?_
            refine AllReadyH.cons (o := _) rfl (fun K hK => ?_) AllReadyH.nil
            go_simp
            go_at_call 45; refine (HCK.out _ _ (MA.out.ext (by repeat (first | exact Ext.refl _ | refine Ext.trans ?_ (Ext.alloc _ _) | refine Ext.trans ?_ (drew_ext _) | refine Ext.trans ?_ ba | refine Ext.trans ?_ b40 | refine Ext.trans ?_ b39 | refine Ext.trans ?_ b38 | refine Ext.trans ?_ b37 | refine Ext.trans ?_ b36 | refine Ext.trans ?_ b35 | refine Ext.trans ?_ b34 | refine Ext.trans ?_ b33 | refine Ext.trans ?_ b32 | refine Ext.trans ?_ b31 | refine Ext.trans ?_ b30 | refine Ext.trans ?_ b29 | refine Ext.trans ?_ b28 | refine Ext.trans ?_ b27 | refine Ext.trans ?_ b26 | refine Ext.trans ?_ b25 | refine Ext.trans ?_ b24 | refine Ext.trans ?_ b23 | refine Ext.trans ?_ b22 | refine Ext.trans ?_ b21 | refine Ext.trans ?_ b20 | refine Ext.trans ?_ b19 | refine Ext.trans ?_ b18 | refine Ext.trans ?_ b17 | refine Ext.trans ?_ b16 | refine Ext.trans ?_ b15 | refine Ext.trans ?_ b14 | refine Ext.trans ?_ b13 | refine Ext.trans ?_ b12 | refine Ext.trans ?_ b11 | refine Ext.trans ?_ b10 | refine Ext.trans ?_ b9 | refine Ext.trans ?_ b8 | refine Ext.trans ?_ b7 | refine Ext.trans ?_ b6 | refine Ext.trans ?_ b5 | refine Ext.trans ?_ b4 | refine Ext.trans ?_ b3 | refine Ext.trans ?_ b2 | refine Ext.trans ?_ b1)))).mono ?_; rintro e w21 ⟨_, rfl, b21, rfl⟩; (first | have XE := Ext.trans XE b21 | have XE := Ext.trans (Ext.trans XE (Ext.alloc _ _)) b21)
            go_wp2_with fail
            refine hK.out _ _ (⟨(L1.out.ext XE).c6, (L2.out.ext XE).c6, (L3.out.ext XE).c3, (L4.out.ext XE).c6⟩) (fun hHeld => ?_)
            clear hK K
            try simp only [Act.put, List.getElem_toArray, List.getElem_cons_succ, List.getElem_cons_zero, List.setIfInBounds_toArray, List.set_cons_zero, List.set_cons_succ]
            refine wpAnyH_ready (rs := [32]) (by kernel_rfl) (by simp) ?_
            refine AllReadyH.cons (o := _) rfl (fun K hK => ?_) AllReadyH.nil
            go_simp
            go_at_call 46; refine (HC1.out _ _ _ (PA.out.ext (by repeat (first | exact Ext.refl _ | refine Ext.trans ?_ (Ext.alloc _ _) | refine Ext.trans ?_ (drew_ext _) | refine Ext.trans ?_ ba | refine Ext.trans ?_ b40 | refine Ext.trans ?_ b39 | refine Ext.trans ?_ b38 | refine Ext.trans ?_ b37 | refine Ext.trans ?_ b36 | refine Ext.trans ?_ b35 | refine Ext.trans ?_ b34 | refine Ext.trans ?_ b33 | refine Ext.trans ?_ b32 | refine Ext.trans ?_ b31 | refine Ext.trans ?_ b30 | refine Ext.trans ?_ b29 | refine Ext.trans ?_ b28 | refine Ext.trans ?_ b27 | refine Ext.trans ?_ b26 | refine Ext.trans ?_ b25 | refine Ext.trans ?_ b24 | refine Ext.trans ?_ b23 | refine Ext.trans ?_ b22 | refine Ext.trans ?_ b21 | refine Ext.trans ?_ b20 | refine Ext.trans ?_ b19 | refine Ext.trans ?_ b18 | refine Ext.trans ?_ b17 | refine Ext.trans ?_ b16 | refine Ext.trans ?_ b15 | refine Ext.trans ?_ b14 | refine Ext.trans ?_ b13 | refine Ext.trans ?_ b12 | refine Ext.trans ?_ b11 | refine Ext.trans ?_ b10 | refine Ext.trans ?_ b9 | refine Ext.trans ?_ b8 | refine Ext.trans ?_ b7 | refine Ext.trans ?_ b6 | refine Ext.trans ?_ b5 | refine Ext.trans ?_ b4 | refine Ext.trans ?_ b3 | refine Ext.trans ?_ b2 | refine Ext.trans ?_ b1))) (PB.out.ext (by repeat (first | exact Ext.refl _ | refine Ext.trans ?_ (Ext.alloc _ _) | refine Ext.trans ?_ (drew_ext _) | refine Ext.trans ?_ ba | refine Ext.trans ?_ b40 | refine Ext.trans ?_ b39 | refine Ext.trans ?_ b38 | refine Ext.trans ?_ b37 | refine Ext.trans ?_ b36 | refine Ext.trans ?_ b35 | refine Ext.trans ?_ b34 | refine Ext.trans ?_ b33 | refine Ext.trans ?_ b32 | refine Ext.trans ?_ b31 | refine Ext.trans ?_ b30 | refine Ext.trans ?_ b29 | refine Ext.trans ?_ b28 | refine Ext.trans ?_ b27 | refine Ext.trans ?_ b26 | refine Ext.trans ?_ b25 | refine Ext.trans ?_ b24 | refine Ext.trans ?_ b23 | refine Ext.trans ?_ b22 | refine Ext.trans ?_ b21 | refine Ext.trans ?_ b20 | refine Ext.trans ?_ b19 | refine Ext.trans ?_ b18 | refine Ext.trans ?_ b17 | refine Ext.trans ?_ b16 | refine Ext.trans ?_ b15 | refine Ext.trans ?_ b14 | refine Ext.trans ?_ b13 | refine Ext.trans ?_ b12 | refine Ext.trans ?_ b11 | refine Ext.trans ?_ b10 | refine Ext.trans ?_ b9 | refine Ext.trans ?_ b8 | refine Ext.trans ?_ b7 | refine Ext.trans ?_ b6 | refine Ext.trans ?_ b5 | refine Ext.trans ?_ b4 | refine Ext.trans ?_ b3 | refine Ext.trans ?_ b2 | refine Ext.trans ?_ b1)))).mono ?_; rintro e w22 ⟨_, rfl, b22, rfl⟩; (first | have XE := Ext.trans XE b22 | have XE := Ext.trans (Ext.trans XE (Ext.alloc _ _)) b22)
            go_wp2_with fail
            refine hK.out _ _ (⟨(L1.out.ext XE).c6, (L2.out.ext XE).c6, (L3.out.ext XE).c3, (L4.out.ext XE).c6⟩) (fun hHeld => ?_)
            clear hK K
            try simp only [Act.put, List.getElem_toArray, List.getElem_cons_succ, List.getElem_cons_zero, List.setIfInBounds_toArray, List.set_cons_zero, List.set_cons_succ]
            refine wpAnyH_take (i := 33) (v := ?_) rfl (by kernel_rfl) (by kernel_rfl) (by kernel_rfl) (fun _ _ _ h => h) (Or.inl ⟨by rfl, fun w0 hSw => ?_⟩) hHeld ?_
            rotate_left
            · (try dsimp only at hSw)
              go_simp
              try with_reducible rfl
            simp only [Act.put, List.getElem_toArray, List.getElem_cons_succ, List.getElem_cons_zero, List.setIfInBounds_toArray, List.set_cons_zero, List.set_cons_succ]
            refine wpAnyH_take (i := 34) (v := ?_) rfl (by kernel_rfl) (by kernel_rfl) (by kernel_rfl) (fun _ _ _ h => h) (Or.inl ⟨by rfl, fun w0 hSw => ?_⟩) hHeld ?_
            rotate_left
            · (try dsimp only at hSw)
              go_simp
              try with_reducible rfl
            simp only [Act.put, List.getElem_toArray, List.getElem_cons_succ, List.getElem_cons_zero, List.setIfInBounds_toArray, List.set_cons_zero, List.set_cons_succ]
            refine wpAnyH_take (i := 35) (v := ?_) rfl (by kernel_rfl) (by kernel_rfl) (by kernel_rfl) (fun _ _ _ h => h) (Or.inl ⟨by rfl, fun w0 hSw => ?_⟩) hHeld ?_
            rotate_left
            · (try dsimp only at hSw)
              go_simp
              try with_reducible rfl
            simp only [Act.put, List.getElem_toArray, List.getElem_cons_succ, List.getElem_cons_zero, List.setIfInBounds_toArray, List.set_cons_zero, List.set_cons_succ]
            refine wpAnyH_take (i := 36) (v := ?_) rfl (by kernel_rfl) (by kernel_rfl) (by kernel_rfl) (fun _ _ _ h => h) (Or.inl ⟨by rfl, fun w0 hSw => ?_⟩) hHeld ?_
            rotate_left
            · (try dsimp only at hSw)
              go_simp
              try with_reducible rfl
            simp only [Act.put, List.getElem_toArray, List.getElem_cons_succ, List.getElem_cons_zero, List.setIfInBounds_toArray, List.set_cons_zero, List.set_cons_succ]
            refine wpAnyH_take (i := 37) (v := ?_) rfl (by kernel_rfl) (by kernel_rfl) (by kernel_rfl) (fun _ _ _ h => h) (Or.inl ⟨by rfl, fun w0 hSw => ?_⟩) hHeld ?_
            rotate_left
            · (try dsimp only at hSw)
              go_simp
              try with_reducible rfl
            simp only [Act.put, List.getElem_toArray, List.getElem_cons_succ, List.getElem_cons_zero, List.setIfInBounds_toArray, List.set_cons_zero, List.set_cons_succ]
            refine wpAnyH_take (i := 38) (v := ?_) rfl (by kernel_rfl) (by kernel_rfl) (by kernel_rfl) (fun _ _ _ h => h) (Or.inl ⟨by rfl, fun w0 hSw => ?_⟩) hHeld ?_
            rotate_left
            · (try dsimp only at hSw)
              go_simp
              try with_reducible rfl
            simp only [Act.put, List.getElem_toArray, List.getElem_cons_succ, List.getElem_cons_zero, List.setIfInBounds_toArray, List.set_cons_zero, List.set_cons_succ]
            refine wpAnyH_take (i := 40) (v := ?_) rfl (by kernel_rfl) (by kernel_rfl) (by kernel_rfl) (fun _ _ _ h => h) (Or.inl ⟨by rfl, fun w0 hSw => ?_⟩) hHeld ?_
            rotate_left
            · (try dsimp only at hSw)
              go_simp
              try with_reducible rfl
            simp only [Act.put, List.getElem_toArray, List.getElem_cons_succ, List.getElem_cons_zero, List.setIfInBounds_toArray, List.set_cons_zero, List.set_cons_succ]
            refine wpAnyH_take (i := 41) (v := ?_) rfl (by kernel_rfl) (by kernel_rfl) (by kernel_rfl) (fun _ _ _ h => h) (Or.inl ⟨by rfl, fun w0 hSw => ?_⟩) hHeld ?_
            rotate_left
            · (try dsimp only at hSw)
              go_simp
              try with_reducible rfl
            simp only [Act.put, List.getElem_toArray, List.getElem_cons_succ, List.getElem_cons_zero, List.setIfInBounds_toArray, List.set_cons_zero, List.set_cons_succ]
            refine wpAnyH_take (i := 42) (v := ?_) rfl (by kernel_rfl) (by kernel_rfl) (by kernel_rfl) (fun _ _ _ h => h) (Or.inl ⟨by rfl, fun w0 hSw => ?_⟩) hHeld ?_
            rotate_left
            · (try dsimp only at hSw)
              go_simp
              try with_reducible rfl
            simp only [Act.put, List.getElem_toArray, List.getElem_cons_succ, List.getElem_cons_zero, List.setIfInBounds_toArray, List.set_cons_zero, List.set_cons_succ]
            refine wpAnyH_ready (rs := [39]) (by kernel_rfl) (by simp) ?_
            refine AllReadyH.cons (o := _) rfl (fun K hK => ?_) AllReadyH.nil
            go_simp
            go_at_call 47; refine (HHS.out _ _ _ (MA.out.ext (by repeat (first | exact Ext.refl _ | refine Ext.trans ?_ (Ext.alloc _ _) | refine Ext.trans ?_ (drew_ext _) | refine Ext.trans ?_ ba | refine Ext.trans ?_ b40 | refine Ext.trans ?_ b39 | refine Ext.trans ?_ b38 | refine Ext.trans ?_ b37 | refine Ext.trans ?_ b36 | refine Ext.trans ?_ b35 | refine Ext.trans ?_ b34 | refine Ext.trans ?_ b33 | refine Ext.trans ?_ b32 | refine Ext.trans ?_ b31 | refine Ext.trans ?_ b30 | refine Ext.trans ?_ b29 | refine Ext.trans ?_ b28 | refine Ext.trans ?_ b27 | refine Ext.trans ?_ b26 | refine Ext.trans ?_ b25 | refine Ext.trans ?_ b24 | refine Ext.trans ?_ b23 | refine Ext.trans ?_ b22 | refine Ext.trans ?_ b21 | refine Ext.trans ?_ b20 | refine Ext.trans ?_ b19 | refine Ext.trans ?_ b18 | refine Ext.trans ?_ b17 | refine Ext.trans ?_ b16 | refine Ext.trans ?_ b15 | refine Ext.trans ?_ b14 | refine Ext.trans ?_ b13 | refine Ext.trans ?_ b12 | refine Ext.trans ?_ b11 | refine Ext.trans ?_ b10 | refine Ext.trans ?_ b9 | refine Ext.trans ?_ b8 | refine Ext.trans ?_ b7 | refine Ext.trans ?_ b6 | refine Ext.trans ?_ b5 | refine Ext.trans ?_ b4 | refine Ext.trans ?_ b3 | refine Ext.trans ?_ b2 | refine Ext.trans ?_ b1))) (MR.out.ext (by repeat (first | exact Ext.refl _ | refine Ext.trans ?_ (Ext.alloc _ _) | refine Ext.trans ?_ (drew_ext _) | refine Ext.trans ?_ ba | refine Ext.trans ?_ b40 | refine Ext.trans ?_ b39 | refine Ext.trans ?_ b38 | refine Ext.trans ?_ b37 | refine Ext.trans ?_ b36 | refine Ext.trans ?_ b35 | refine Ext.trans ?_ b34 | refine Ext.trans ?_ b33 | refine Ext.trans ?_ b32 | refine Ext.trans ?_ b31 | refine Ext.trans ?_ b30 | refine Ext.trans ?_ b29 | refine Ext.trans ?_ b28 | refine Ext.trans ?_ b27 | refine Ext.trans ?_ b26 | refine Ext.trans ?_ b25 | refine Ext.trans ?_ b24 | refine Ext.trans ?_ b23 | refine Ext.trans ?_ b22 | refine Ext.trans ?_ b21 | refine Ext.trans ?_ b20 | refine Ext.trans ?_ b19 | refine Ext.trans ?_ b18 | refine Ext.trans ?_ b17 | refine Ext.trans ?_ b16 | refine Ext.trans ?_ b15 | refine Ext.trans ?_ b14 | refine Ext.trans ?_ b13 | refine Ext.trans ?_ b12 | refine Ext.trans ?_ b11 | refine Ext.trans ?_ b10 | refine Ext.trans ?_ b9 | refine Ext.trans ?_ b8 | refine Ext.trans ?_ b7 | refine Ext.trans ?_ b6 | refine Ext.trans ?_ b5 | refine Ext.trans ?_ b4 | refine Ext.trans ?_ b3 | refine Ext.trans ?_ b2 | refine Ext.trans ?_ b1)))).mono ?_; rintro e w23 ⟨_, rfl, b23, rfl⟩; (first | have XE := Ext.trans XE b23 | have XE := Ext.trans (Ext.trans XE (Ext.alloc _ _)) b23)
            go_wp2_with fail
            refine hK.out _ _ (⟨(L1.out.ext XE).c6, (L2.out.ext XE).c6, (L3.out.ext XE).c3, (L4.out.ext XE).c6⟩) (fun hHeld => ?_)
            clear hK K
            try simp only [Act.put, List.getElem_toArray, List.getElem_cons_succ, List.getElem_cons_zero, List.setIfInBounds_toArray, List.set_cons_zero, List.set_cons_succ]
            refine wpAnyH_ready (rs := [43]) (by kernel_rfl) (by simp) ?_
            refine AllReadyH.cons (o := _) rfl (fun K hK => ?_) AllReadyH.nil
            go_simp
            go_at_call 46; refine (HC2.out _ _ _ (PA.out.ext (by repeat (first | exact Ext.refl _ | refine Ext.trans ?_ (Ext.alloc _ _) | refine Ext.trans ?_ (drew_ext _) | refine Ext.trans ?_ ba | refine Ext.trans ?_ b40 | refine Ext.trans ?_ b39 | refine Ext.trans ?_ b38 | refine Ext.trans ?_ b37 | refine Ext.trans ?_ b36 | refine Ext.trans ?_ b35 | refine Ext.trans ?_ b34 | refine Ext.trans ?_ b33 | refine Ext.trans ?_ b32 | refine Ext.trans ?_ b31 | refine Ext.trans ?_ b30 | refine Ext.trans ?_ b29 | refine Ext.trans ?_ b28 | refine Ext.trans ?_ b27 | refine Ext.trans ?_ b26 | refine Ext.trans ?_ b25 | refine Ext.trans ?_ b24 | refine Ext.trans ?_ b23 | refine Ext.trans ?_ b22 | refine Ext.trans ?_ b21 | refine Ext.trans ?_ b20 | refine Ext.trans ?_ b19 | refine Ext.trans ?_ b18 | refine Ext.trans ?_ b17 | refine Ext.trans ?_ b16 | refine Ext.trans ?_ b15 | refine Ext.trans ?_ b14 | refine Ext.trans ?_ b13 | refine Ext.trans ?_ b12 | refine Ext.trans ?_ b11 | refine Ext.trans ?_ b10 | refine Ext.trans ?_ b9 | refine Ext.trans ?_ b8 | refine Ext.trans ?_ b7 | refine Ext.trans ?_ b6 | refine Ext.trans ?_ b5 | refine Ext.trans ?_ b4 | refine Ext.trans ?_ b3 | refine Ext.trans ?_ b2 | refine Ext.trans ?_ b1))) (MR.out.ext (by repeat (first | exact Ext.refl _ | refine Ext.trans ?_ (Ext.alloc _ _) | refine Ext.trans ?_ (drew_ext _) | refine Ext.trans ?_ ba | refine Ext.trans ?_ b40 | refine Ext.trans ?_ b39 | refine Ext.trans ?_ b38 | refine Ext.trans ?_ b37 | refine Ext.trans ?_ b36 | refine Ext.trans ?_ b35 | refine Ext.trans ?_ b34 | refine Ext.trans ?_ b33 | refine Ext.trans ?_ b32 | refine Ext.trans ?_ b31 | refine Ext.trans ?_ b30 | refine Ext.trans ?_ b29 | refine Ext.trans ?_ b28 | refine Ext.trans ?_ b27 | refine Ext.trans ?_ b26 | refine Ext.trans ?_ b25 | refine Ext.trans ?_ b24 | refine Ext.trans ?_ b23 | refine Ext.trans ?_ b22 | refine Ext.trans ?_ b21 | refine Ext.trans ?_ b20 | refine Ext.trans ?_ b19 | refine Ext.trans ?_ b18 | refine Ext.trans ?_ b17 | refine Ext.trans ?_ b16 | refine Ext.trans ?_ b15 | refine Ext.trans ?_ b14 | refine Ext.trans ?_ b13 | refine Ext.trans ?_ b12 | refine Ext.trans ?_ b11 | refine Ext.trans ?_ b10 | refine Ext.trans ?_ b9 | refine Ext.trans ?_ b8 | refine Ext.trans ?_ b7 | refine Ext.trans ?_ b6 | refine Ext.trans ?_ b5 | refine Ext.trans ?_ b4 | refine Ext.trans ?_ b3 | refine Ext.trans ?_ b2 | refine Ext.trans ?_ b1)))).mono ?_; rintro e w24 ⟨_, rfl, b24, rfl⟩; (first | have XE := Ext.trans XE b24 | have XE := Ext.trans (Ext.trans XE (Ext.alloc _ _)) b24)
            go_wp2_with fail
            refine hK.out _ _ (⟨(L1.out.ext XE).c6, (L2.out.ext XE).c6, (L3.out.ext XE).c3, (L4.out.ext XE).c6⟩) (fun hHeld => ?_)
            clear hK K
            try simp only [Act.put, List.getElem_toArray, List.getElem_cons_succ, List.getElem_cons_zero, List.setIfInBounds_toArray, List.set_cons_zero, List.set_cons_succ]
            refine wpAnyH_take (i := 44) (v := ?_) rfl (by kernel_rfl) (by kernel_rfl) (by kernel_rfl) (fun _ _ _ h => h) (Or.inl ⟨by rfl, fun w0 hSw => ?_⟩) hHeld ?_
            rotate_left
            · (try dsimp only at hSw)
              go_simp
              try with_reducible rfl
            simp only [Act.put, List.getElem_toArray, List.getElem_cons_succ, List.getElem_cons_zero, List.setIfInBounds_toArray, List.set_cons_zero, List.set_cons_succ]
            refine wpAnyH_take (i := 45) (v := ?_) rfl (by kernel_rfl) (by kernel_rfl) (by kernel_rfl) (fun _ _ _ h => h) (Or.inl ⟨by rfl, fun w0 hSw => ?_⟩) hHeld ?_
            rotate_left
            · (try dsimp only at hSw)
              go_simp
              try with_reducible rfl
            simp only [Act.put, List.getElem_toArray, List.getElem_cons_succ, List.getElem_cons_zero, List.setIfInBounds_toArray, List.set_cons_zero, List.set_cons_succ]
            refine wpAnyH_take (i := 46) (v := ?_) rfl (by kernel_rfl) (by kernel_rfl) (by kernel_rfl) (fun _ _ _ h => h) (Or.inl ⟨by rfl, fun w0 hSw => ?_⟩) hHeld ?_
            rotate_left
            · (try dsimp only at hSw)
              go_simp
              try with_reducible rfl
            simp only [Act.put, List.getElem_toArray, List.getElem_cons_succ, List.getElem_cons_zero, List.setIfInBounds_toArray, List.set_cons_zero, List.set_cons_succ]
            refine wpAnyH_take (i := 47) (v := ?_) rfl (by kernel_rfl) (by kernel_rfl) (by kernel_rfl) (fun _ _ _ h => h) (Or.inl ⟨by rfl, fun w0 hSw => ?_⟩) hHeld ?_
            rotate_left
            · (try dsimp only at hSw)
              go_simp
              try with_reducible rfl
            simp only [Act.put, List.getElem_toArray, List.getElem_cons_succ, List.getElem_cons_zero, List.setIfInBounds_toArray, List.set_cons_zero, List.set_cons_succ]
            refine wpAnyH_take (i := 48) (v := ?_) rfl (by kernel_rfl) (by kernel_rfl) (by kernel_rfl) (fun _ _ _ h => h) (Or.inl ⟨by rfl, fun w0 hSw => ?_⟩) hHeld ?_
            rotate_left
            · (try dsimp only at hSw)
              go_simp
              try with_reducible rfl
            simp only [Act.put, List.getElem_toArray, List.getElem_cons_succ, List.getElem_cons_zero, List.setIfInBounds_toArray, List.set_cons_zero, List.set_cons_succ]
            refine wpAnyH_ready (rs := [49]) (by kernel_rfl) (by simp) ?_
            refine AllReadyH.cons (o := _) rfl (fun K hK => ?_) AllReadyH.nil
            go_simp
            go_at_call 46; refine (HC3.out _ _ _ (MR.out.ext (by repeat (first | exact Ext.refl _ | refine Ext.trans ?_ (Ext.alloc _ _) | refine Ext.trans ?_ (drew_ext _) | refine Ext.trans ?_ ba | refine Ext.trans ?_ b40 | refine Ext.trans ?_ b39 | refine Ext.trans ?_ b38 | refine Ext.trans ?_ b37 | refine Ext.trans ?_ b36 | refine Ext.trans ?_ b35 | refine Ext.trans ?_ b34 | refine Ext.trans ?_ b33 | refine Ext.trans ?_ b32 | refine Ext.trans ?_ b31 | refine Ext.trans ?_ b30 | refine Ext.trans ?_ b29 | refine Ext.trans ?_ b28 | refine Ext.trans ?_ b27 | refine Ext.trans ?_ b26 | refine Ext.trans ?_ b25 | refine Ext.trans ?_ b24 | refine Ext.trans ?_ b23 | refine Ext.trans ?_ b22 | refine Ext.trans ?_ b21 | refine Ext.trans ?_ b20 | refine Ext.trans ?_ b19 | refine Ext.trans ?_ b18 | refine Ext.trans ?_ b17 | refine Ext.trans ?_ b16 | refine Ext.trans ?_ b15 | refine Ext.trans ?_ b14 | refine Ext.trans ?_ b13 | refine Ext.trans ?_ b12 | refine Ext.trans ?_ b11 | refine Ext.trans ?_ b10 | refine Ext.trans ?_ b9 | refine Ext.trans ?_ b8 | refine Ext.trans ?_ b7 | refine Ext.trans ?_ b6 | refine Ext.trans ?_ b5 | refine Ext.trans ?_ b4 | refine Ext.trans ?_ b3 | refine Ext.trans ?_ b2 | refine Ext.trans ?_ b1))) (PB.out.ext (by repeat (first | exact Ext.refl _ | refine Ext.trans ?_ (Ext.alloc _ _) | refine Ext.trans ?_ (drew_ext _) | refine Ext.trans ?_ ba | refine Ext.trans ?_ b40 | refine Ext.trans ?_ b39 | refine Ext.trans ?_ b38 | refine Ext.trans ?_ b37 | refine Ext.trans ?_ b36 | refine Ext.trans ?_ b35 | refine Ext.trans ?_ b34 | refine Ext.trans ?_ b33 | refine Ext.trans ?_ b32 | refine Ext.trans ?_ b31 | refine Ext.trans ?_ b30 | refine Ext.trans ?_ b29 | refine Ext.trans ?_ b28 | refine Ext.trans ?_ b27 | refine Ext.trans ?_ b26 | refine Ext.trans ?_ b25 | refine Ext.trans ?_ b24 | refine Ext.trans ?_ b23 | refine Ext.trans ?_ b22 | refine Ext.trans ?_ b21 | refine Ext.trans ?_ b20 | refine Ext.trans ?_ b19 | refine Ext.trans ?_ b18 | refine Ext.trans ?_ b17 | refine Ext.trans ?_ b16 | refine Ext.trans ?_ b15 | refine Ext.trans ?_ b14 | refine Ext.trans ?_ b13 | refine Ext.trans ?_ b12 | refine Ext.trans ?_ b11 | refine Ext.trans ?_ b10 | refine Ext.trans ?_ b9 | refine Ext.trans ?_ b8 | refine Ext.trans ?_ b7 | refine Ext.trans ?_ b6 | refine Ext.trans ?_ b5 | refine Ext.trans ?_ b4 | refine Ext.trans ?_ b3 | refine Ext.trans ?_ b2 | refine Ext.trans ?_ b1)))).mono ?_; rintro e w25 ⟨_, rfl, b25, rfl⟩; (first | have XE := Ext.trans XE b25 | have XE := Ext.trans (Ext.trans XE (Ext.alloc _ _)) b25)
            go_wp2_with fail
            refine hK.out _ _ (⟨(L1.out.ext XE).c6, (L2.out.ext XE).c6, (L3.out.ext XE).c3, (L4.out.ext XE).c6⟩) (fun hHeld => ?_)
            clear hK K
            try simp only [Act.put, List.getElem_toArray, List.getElem_cons_succ, List.getElem_cons_zero, List.setIfInBounds_toArray, List.set_cons_zero, List.set_cons_succ]
            refine wpAnyH_take (i := 50) (v := ?_) rfl (by kernel_rfl) (by kernel_rfl) (by kernel_rfl) (fun _ _ _ h => h) (Or.inl ⟨by rfl, fun w0 hSw => ?_⟩) hHeld ?_
            rotate_left
            · (try dsimp only at hSw)
              go_simp
              try with_reducible rfl
            simp only [Act.put, List.getElem_toArray, List.getElem_cons_succ, List.getElem_cons_zero, List.setIfInBounds_toArray, List.set_cons_zero, List.set_cons_succ]
            refine wpAnyH_take (i := 51) (v := ?_) rfl (by kernel_rfl) (by kernel_rfl) (by kernel_rfl) (fun _ _ _ h => h) (Or.inl ⟨by rfl, fun w0 hSw => ?_⟩) hHeld ?_
            rotate_left
            · (try dsimp only at hSw)
              go_simp
              try with_reducible rfl
            simp only [Act.put, List.getElem_toArray, List.getElem_cons_succ, List.getElem_cons_zero, List.setIfInBounds_toArray, List.set_cons_zero, List.set_cons_succ]
            refine wpAnyH_take (i := 52) (v := ?_) rfl (by kernel_rfl) (by kernel_rfl) (by kernel_rfl) (fun _ _ _ h => h) (Or.inl ⟨by rfl, fun w0 hSw => ?_⟩) hHeld ?_
            rotate_left
            · (try dsimp only at hSw)
              go_simp
              try with_reducible rfl
            simp only [Act.put, List.getElem_toArray, List.getElem_cons_succ, List.getElem_cons_zero, List.setIfInBounds_toArray, List.set_cons_zero, List.set_cons_succ]
            refine wpAnyH_take (i := 53) (v := ?_) rfl (by kernel_rfl) (by kernel_rfl) (by kernel_rfl) (fun _ _ _ h => h) (Or.inl ⟨by rfl, fun w0 hSw => ?_⟩) hHeld ?_
            rotate_left
            · (try dsimp only at hSw)
              go_simp
              try with_reducible rfl
            simp only [Act.put, List.getElem_toArray, List.getElem_cons_succ, List.getElem_cons_zero, List.setIfInBounds_toArray, List.set_cons_zero, List.set_cons_succ]
            refine wpAnyH_take (i := 54) (v := ?_) rfl (by kernel_rfl) (by kernel_rfl) (by kernel_rfl) (fun _ _ _ h => h) (Or.inl ⟨by rfl, fun w0 hSw => ?_⟩) hHeld ?_
            rotate_left
            · (try dsimp only at hSw)
              go_simp
              try with_reducible rfl
            simp only [Act.put, List.getElem_toArray, List.getElem_cons_succ, List.getElem_cons_zero, List.setIfInBounds_toArray, List.set_cons_zero, List.set_cons_succ]
            refine wpAnyH_take (i := 55) (v := ?_) rfl (by kernel_rfl) (by kernel_rfl) (by kernel_rfl) (fun _ _ _ h => h) (Or.inl ⟨by rfl, fun w0 hSw => ?_⟩) hHeld ?_
            rotate_left
            · (try dsimp only at hSw)
              go_simp
              try with_reducible rfl
            simp only [Act.put, List.getElem_toArray, List.getElem_cons_succ, List.getElem_cons_zero, List.setIfInBounds_toArray, List.set_cons_zero, List.set_cons_succ]
            refine wpAnyH_take (i := 57) (v := ?_) rfl (by kernel_rfl) (by kernel_rfl) (by kernel_rfl) (fun _ _ _ h => h) (Or.inl ⟨by rfl, fun w0 hSw => ?_⟩) hHeld ?_
            rotate_left
            · (try dsimp only at hSw)
              go_simp
              try with_reducible rfl
            simp only [Act.put, List.getElem_toArray, List.getElem_cons_succ, List.getElem_cons_zero, List.setIfInBounds_toArray, List.set_cons_zero, List.set_cons_succ]
            refine wpAnyH_ready (rs := [56]) (by kernel_rfl) (by simp) ?_
            refine AllReadyH.cons (o := _) rfl (fun K hK => ?_) AllReadyH.nil
            go_simp
            go_at_call 48; refine (HPS.out _ _ (MA.out.ext (by repeat (first | exact Ext.refl _ | refine Ext.trans ?_ (Ext.alloc _ _) | refine Ext.trans ?_ (drew_ext _) | refine Ext.trans ?_ ba | refine Ext.trans ?_ b40 | refine Ext.trans ?_ b39 | refine Ext.trans ?_ b38 | refine Ext.trans ?_ b37 | refine Ext.trans ?_ b36 | refine Ext.trans ?_ b35 | refine Ext.trans ?_ b34 | refine Ext.trans ?_ b33 | refine Ext.trans ?_ b32 | refine Ext.trans ?_ b31 | refine Ext.trans ?_ b30 | refine Ext.trans ?_ b29 | refine Ext.trans ?_ b28 | refine Ext.trans ?_ b27 | refine Ext.trans ?_ b26 | refine Ext.trans ?_ b25 | refine Ext.trans ?_ b24 | refine Ext.trans ?_ b23 | refine Ext.trans ?_ b22 | refine Ext.trans ?_ b21 | refine Ext.trans ?_ b20 | refine Ext.trans ?_ b19 | refine Ext.trans ?_ b18 | refine Ext.trans ?_ b17 | refine Ext.trans ?_ b16 | refine Ext.trans ?_ b15 | refine Ext.trans ?_ b14 | refine Ext.trans ?_ b13 | refine Ext.trans ?_ b12 | refine Ext.trans ?_ b11 | refine Ext.trans ?_ b10 | refine Ext.trans ?_ b9 | refine Ext.trans ?_ b8 | refine Ext.trans ?_ b7 | refine Ext.trans ?_ b6 | refine Ext.trans ?_ b5 | refine Ext.trans ?_ b4 | refine Ext.trans ?_ b3 | refine Ext.trans ?_ b2 | refine Ext.trans ?_ b1)))).mono ?_; rintro e w26 ⟨_, rfl, b26, rfl⟩; (first | have XE := Ext.trans XE b26 | have XE := Ext.trans (Ext.trans XE (Ext.alloc _ _)) b26)
            go_wp2_with fail
            refine hK.out _ _ (⟨(L1.out.ext XE).c6, (L2.out.ext XE).c6, (L3.out.ext XE).c3, (L4.out.ext XE).c6⟩) (fun hHeld => ?_)
            clear hK K
            try simp only [Act.put, List.getElem_toArray, List.getElem_cons_succ, List.getElem_cons_zero, List.setIfInBounds_toArray, List.set_cons_zero, List.set_cons_succ]
            refine wpAnyH_take (i := 58) (v := ?_) rfl (by kernel_rfl) (by kernel_rfl) (by kernel_rfl) (fun _ _ _ h => h) (Or.inl ⟨by rfl, fun w0 hSw => ?_⟩) hHeld ?_
            rotate_left
            · (try dsimp only at hSw)
              go_simp
              try with_reducible rfl
            simp only [Act.put, List.getElem_toArray, List.getElem_cons_succ, List.getElem_cons_zero, List.setIfInBounds_toArray, List.set_cons_zero, List.set_cons_succ]
            refine wpAnyH_take (i := 59) (v := ?_) rfl (by kernel_rfl) (by kernel_rfl) (by kernel_rfl) (fun _ _ _ h => h) (Or.inl ⟨by rfl, fun w0 hSw => ?_⟩) hHeld ?_
            rotate_left
            · (try dsimp only at hSw)
              go_simp
              try with_reducible rfl
            simp only [Act.put, List.getElem_toArray, List.getElem_cons_succ, List.getElem_cons_zero, List.setIfInBounds_toArray, List.set_cons_zero, List.set_cons_succ]
            refine wpAnyH_take (i := 60) (v := ?_) rfl (by kernel_rfl) (by kernel_rfl) (by kernel_rfl) (fun _ _ _ h => h) (Or.inl ⟨by rfl, fun w0 hSw => ?_⟩) hHeld ?_
            rotate_left
            · (try dsimp only at hSw)
              go_simp
              try with_reducible rfl
            simp only [Act.put, List.getElem_toArray, List.getElem_cons_succ, List.getElem_cons_zero, List.setIfInBounds_toArray, List.set_cons_zero, List.set_cons_succ]
            refine wpAnyH_done (by kernel_rfl) ?_ _
            refine NoPanic.normal ?_
            go_wp2_with fail
            exact hR.out _ _ (Gives.mk (Ext.trans b07 (by repeat (first | exact Ext.refl _ | refine Ext.trans ?_ (Ext.alloc _ _) | refine Ext.trans ?_ (drew_ext _) | refine Ext.trans ?_ ba | refine Ext.trans ?_ b40 | refine Ext.trans ?_ b39 | refine Ext.trans ?_ b38 | refine Ext.trans ?_ b37 | refine Ext.trans ?_ b36 | refine Ext.trans ?_ b35 | refine Ext.trans ?_ b34 | refine Ext.trans ?_ b33 | refine Ext.trans ?_ b32 | refine Ext.trans ?_ b31 | refine Ext.trans ?_ b30 | refine Ext.trans ?_ b29 | refine Ext.trans ?_ b28 | refine Ext.trans ?_ b27 | refine Ext.trans ?_ b26 | refine Ext.trans ?_ b25 | refine Ext.trans ?_ b24 | refine Ext.trans ?_ b23 | refine Ext.trans ?_ b22 | refine Ext.trans ?_ b21 | refine Ext.trans ?_ b20 | refine Ext.trans ?_ b19 | refine Ext.trans ?_ b18 | refine Ext.trans ?_ b17 | refine Ext.trans ?_ b16 | refine Ext.trans ?_ b15 | refine Ext.trans ?_ b14 | refine Ext.trans ?_ b13 | refine Ext.trans ?_ b12 | refine Ext.trans ?_ b11 | refine Ext.trans ?_ b10 | refine Ext.trans ?_ b9 | refine Ext.trans ?_ b8 | refine Ext.trans ?_ b7 | refine Ext.trans ?_ b6 | refine Ext.trans ?_ b5 | refine Ext.trans ?_ b4 | refine Ext.trans ?_ b3 | refine Ext.trans ?_ b2 | refine Ext.trans ?_ b1))) rfl)
          · have htt : decide (t ≤ 0) = false := decide_eq_false ht
            clear ht
            have b8 := drew_ext w7
            have XE := b8
            refine wp_region_noPanic ?_
            refine wp_region_held_drew (S := fun w' => (w'.cell? ⟨B, 0, none⟩ = some (x0) ∧ w'.cell? ⟨B, 1, none⟩ = some (x1) ∧ w'.cell? ⟨B, 2, none⟩ = some (x2) ∧ w'.cell? ⟨B, 3, none⟩ = some (x3) ∧ w'.cell? ⟨B, 4, none⟩ = some (x4) ∧ w'.cell? ⟨B, 5, none⟩ = some (x5)) ∧ (w'.cell? ⟨C, 0, none⟩ = some (y0) ∧ w'.cell? ⟨C, 1, none⟩ = some (y1) ∧ w'.cell? ⟨C, 2, none⟩ = some (y2) ∧ w'.cell? ⟨C, 3, none⟩ = some (y3) ∧ w'.cell? ⟨C, 4, none⟩ = some (y4) ∧ w'.cell? ⟨C, 5, none⟩ = some (y5)) ∧ (w'.cell? ⟨D, 0, none⟩ = some (z0) ∧ w'.cell? ⟨D, 1, none⟩ = some (z1) ∧ w'.cell? ⟨D, 2, none⟩ = some (z2)) ∧ (w'.cell? ⟨E, 0, none⟩ = some (h0) ∧ w'.cell? ⟨E, 1, none⟩ = some (h1) ∧ w'.cell? ⟨E, 2, none⟩ = some (h2) ∧ w'.cell? ⟨E, 3, none⟩ = some (h3) ∧ w'.cell? ⟨E, 4, none⟩ = some (h4) ∧ w'.cell? ⟨E, 5, none⟩ = some (h5))) (by kernel_rfl) (⟨(L1.out.ext XE).c6, (L2.out.ext XE).c6, (L3.out.ext XE).c3, (L4.out.ext XE).c6⟩) (fun hHeld => ?_)
            refine wpAnyH_ready (rs := [0]) (by kernel_rfl) (by simp) ?_
            refine AllReadyH.cons (o := _) rfl (fun K hK => ?_) AllReadyH.nil
            go_simp
            go_at_call 35; refine (awake17).mono ?_; rintro e w9 ⟨_, rfl, b9, rfl⟩; (first | have XE := Ext.trans XE b9 | have XE := Ext.trans (Ext.trans XE (Ext.alloc _ _)) b9)
            go_wp2_with fail
            refine hK.out _ _ (⟨(L1.out.ext XE).c6, (L2.out.ext XE).c6, (L3.out.ext XE).c3, (L4.out.ext XE).c6⟩) (fun hHeld => ?_)
            clear hK K
            try simp only [Act.put, List.getElem_toArray, List.getElem_cons_succ, List.getElem_cons_zero, List.setIfInBounds_toArray, List.set_cons_zero, List.set_cons_succ]
            refine wpAnyH_take (i := 1) (v := ?_) rfl (by kernel_rfl) (by kernel_rfl) (by kernel_rfl) (fun _ _ _ h => h) (Or.inl ⟨by rfl, fun w0 hSw => ?_⟩) hHeld ?_
            rotate_left
            · (try dsimp only at hSw)
              go_simp
              try with_reducible rfl
            simp only [Act.put, List.getElem_toArray, List.getElem_cons_succ, List.getElem_cons_zero, List.setIfInBounds_toArray, List.set_cons_zero, List.set_cons_succ]
            refine wpAnyH_take (i := 2) (v := ?_) rfl (by kernel_rfl) (by kernel_rfl) (by kernel_rfl) (fun _ _ _ h => h) (Or.inl ⟨by rfl, fun w0 hSw => ?_⟩) hHeld ?_
            rotate_left
            · (try dsimp only at hSw)
              go_simp
              try with_reducible rfl
            simp only [Act.put, List.getElem_toArray, List.getElem_cons_succ, List.getElem_cons_zero, List.setIfInBounds_toArray, List.set_cons_zero, List.set_cons_succ]
            refine wpAnyH_take (i := 3) (v := ?_) rfl (by kernel_rfl) (by kernel_rfl) (by kernel_rfl) (fun _ _ _ h => h) (Or.inl ⟨by rfl, fun w0 hSw => ?_⟩) hHeld ?_
            rotate_left
            · (try dsimp only at hSw)
              go_simp
              try with_reducible rfl
            simp only [Act.put, List.getElem_toArray, List.getElem_cons_succ, List.getElem_cons_zero, List.setIfInBounds_toArray, List.set_cons_zero, List.set_cons_succ]
            refine wpAnyH_take (i := 5) (v := ?_) rfl (by kernel_rfl) (by kernel_rfl) (by kernel_rfl) (fun _ _ _ h => h) (Or.inl ⟨by rfl, fun w0 hSw => ?_⟩) hHeld ?_
            rotate_left
            · (try dsimp only at hSw)
              go_simp
              try with_reducible rfl
            simp only [Act.put, List.getElem_toArray, List.getElem_cons_succ, List.getElem_cons_zero, List.setIfInBounds_toArray, List.set_cons_zero, List.set_cons_succ]
            refine wpAnyH_take (i := 6) (v := ?_) rfl (by kernel_rfl) (by kernel_rfl) (by kernel_rfl) (fun _ _ _ h => h) (Or.inl ⟨by rfl, fun w0 hSw => ?_⟩) hHeld ?_
            rotate_left
            · (try dsimp only at hSw)
              go_simp
              try with_reducible rfl
            simp only [Act.put, List.getElem_toArray, List.getElem_cons_succ, List.getElem_cons_zero, List.setIfInBounds_toArray, List.set_cons_zero, List.set_cons_succ]
            refine wpAnyH_take (i := 8) (v := ?_) rfl (by kernel_rfl) (by kernel_rfl) (by kernel_rfl) (fun _ _ _ h => h) (Or.inl ⟨by rfl, fun w0 hSw => ?_⟩) hHeld ?_
            rotate_left
            · (try dsimp only at hSw)
              go_simp
              try with_reducible rfl
            simp only [Act.put, List.getElem_toArray, List.getElem_cons_succ, List.getElem_cons_zero, List.setIfInBounds_toArray, List.set_cons_zero, List.set_cons_succ]
            refine wpAnyH_take (i := 12) (v := ?_) rfl (by kernel_rfl) (by kernel_rfl) (by kernel_rfl) (fun _ _ _ h => h) (Or.inl ⟨by rfl, fun w0 hSw => ?_⟩) hHeld ?_
            rotate_left
            · (try dsimp only at hSw)
              go_simp
              try with_reducible rfl
            simp only [Act.put, List.getElem_toArray, List.getElem_cons_succ, List.getElem_cons_zero, List.setIfInBounds_toArray, List.set_cons_zero, List.set_cons_succ]
            refine wpAnyH_take (i := 14) (v := ?_) rfl (by kernel_rfl) (by kernel_rfl) (by kernel_rfl) (fun _ _ _ h => h) (Or.inl ⟨by rfl, fun w0 hSw => ?_⟩) hHeld ?_
            rotate_left
            · (try dsimp only at hSw)
              go_simp
              try with_reducible rfl
            simp only [Act.put, List.getElem_toArray, List.getElem_cons_succ, List.getElem_cons_zero, List.setIfInBounds_toArray, List.set_cons_zero, List.set_cons_succ]
            refine wpAnyH_take (i := 17) (v := ?_) rfl (by kernel_rfl) (by kernel_rfl) (by kernel_rfl) (fun _ _ _ h => h) (Or.inl ⟨by rfl, fun w0 hSw => ?_⟩) hHeld ?_
            rotate_left
            · (try dsimp only at hSw)
              go_simp
              try with_reducible rfl
            simp only [Act.put, List.getElem_toArray, List.getElem_cons_succ, List.getElem_cons_zero, List.setIfInBounds_toArray, List.set_cons_zero, List.set_cons_succ]
            refine wpAnyH_take (i := 19) (v := ?_) rfl (by kernel_rfl) (by kernel_rfl) (by kernel_rfl) (fun _ _ _ h => h) (Or.inl ⟨by rfl, fun w0 hSw => ?_⟩) hHeld ?_
            rotate_left
            · (try dsimp only at hSw)
              go_simp
              try with_reducible rfl
            simp only [Act.put, List.getElem_toArray, List.getElem_cons_succ, List.getElem_cons_zero, List.setIfInBounds_toArray, List.set_cons_zero, List.set_cons_succ]
            refine wpAnyH_ready (rs := [4]) (by kernel_rfl) (by simp) ?_
            refine AllReadyH.cons (o := _) rfl (fun K hK => ?_) AllReadyH.nil
            go_simp
            go_at_call 38; refine (HSC.out _ _ _ (MR.out.ext (Ext.trans b8 b9)) (MA.out.ext (Ext.trans b8 b9))).mono ?_; rintro e w10 ⟨v10, rfl, b10, o10⟩; have O10 := Lib.hid o10; clear o10; (first | have XE := Ext.trans XE b10 | have XE := Ext.trans (Ext.trans XE (Ext.alloc _ _)) b10); obtain ⟨m0', m1', m2', m3', m4', m5', rfl, -, -⟩ := O10.out.rd; have R10 := Lib.hid O10.out.rd
            go_wp2_with fail
            refine hK.out _ _ (⟨(L1.out.ext XE).c6, (L2.out.ext XE).c6, (L3.out.ext XE).c3, (L4.out.ext XE).c6⟩) (fun hHeld => ?_)
            clear hK K
            try simp only [Act.put, List.getElem_toArray, List.getElem_cons_succ, List.getElem_cons_zero, List.setIfInBounds_toArray, List.set_cons_zero, List.set_cons_succ]
            refine wpAnyH_ready (rs := [7]) (by kernel_rfl) (by simp) ?_
            refine AllReadyH.cons (o := _) rfl (fun K hK => ?_) AllReadyH.nil
            go_simp
            go_at_call 39; refine (HAD.out _ _ _ (MA.out.ext (Ext.trans b8 (Ext.trans b9 b10))) (MC.out.ext (Ext.trans b8 (Ext.trans b9 b10)))).mono ?_; rintro e w11 ⟨v11, rfl, b11, o11⟩; have O11 := Lib.hid o11; clear o11; (first | have XE := Ext.trans XE b11 | have XE := Ext.trans (Ext.trans XE (Ext.alloc _ _)) b11); obtain ⟨n0', n1', n2', n3', n4', n5', rfl, -, -⟩ := O11.out.rd; have R11 := Lib.hid O11.out.rd
            go_wp2_with fail
            refine hK.out _ _ (⟨(L1.out.ext XE).c6, (L2.out.ext XE).c6, (L3.out.ext XE).c3, (L4.out.ext XE).c6⟩) (fun hHeld => ?_)
            clear hK K
            try simp only [Act.put, List.getElem_toArray, List.getElem_cons_succ, List.getElem_cons_zero, List.setIfInBounds_toArray, List.set_cons_zero, List.set_cons_succ]
            refine wpAnyH_ready (rs := [9]) (by kernel_rfl) (by simp) ?_
            refine AllReadyH.cons (o := _) rfl (fun K hK => ?_) AllReadyH.nil
            go_simp
            go_at_call 40; refine (HRE.out _ _ (MA.out.ext (Ext.trans b8 (Ext.trans b9 (Ext.trans b10 b11))))).mono ?_; rintro e w12 ⟨v12, rfl, b12, o12⟩; have O12 := Lib.hid o12; clear o12; (first | have XE := Ext.trans XE b12 | have XE := Ext.trans (Ext.trans XE (Ext.alloc _ _)) b12); have R12 := O12; obtain ⟨l0', l1', l2', l3', l4', l5', rfl, -, -⟩ := R12.out
            go_wp2_with fail
            refine hK.out _ _ (⟨(L1.out.ext XE).c6, (L2.out.ext XE).c6, (L3.out.ext XE).c3, (L4.out.ext XE).c6⟩) (fun hHeld => ?_)
            clear hK K
            try simp only [Act.put, List.getElem_toArray, List.getElem_cons_succ, List.getElem_cons_zero, List.setIfInBounds_toArray, List.set_cons_zero, List.set_cons_succ]
            refine wpAnyH_ready (rs := [10]) (by kernel_rfl) (by simp) ?_
            refine AllReadyH.cons (o := _) rfl (fun K hK => ?_) AllReadyH.nil
            go_simp
            refine hK.out _ _ (⟨(L1.out.ext (Ext.trans XE (Ext.alloc _ _))).c6, (L2.out.ext (Ext.trans XE (Ext.alloc _ _))).c6, (L3.out.ext (Ext.trans XE (Ext.alloc _ _))).c3, (L4.out.ext (Ext.trans XE (Ext.alloc _ _))).c6⟩) (fun hHeld => ?_)
            clear hK K
            try simp only [Act.put, List.getElem_toArray, List.getElem_cons_succ, List.getElem_cons_zero, List.setIfInBounds_toArray, List.set_cons_zero, List.set_cons_succ]
            refine wpAnyH_ready (rs := [11]) (by kernel_rfl) (by simp) ?_
            refine AllReadyH.cons (o := _) rfl (fun K hK => ?_) AllReadyH.nil
            go_simp
            go_at_call 37; refine (HTD.out _ _ (RdRow.lit w12 [[m0', m1', m2', m3', m4', m5'], [n0', n1', n2', n3', n4', n5'], [l0', l1', l2', l3', l4', l5']] _ ⟨⟨rfl, R10.out.ext (Ext.trans b11 b12)⟩, ⟨rfl, R11.out.ext b12⟩, ⟨rfl, R12.out⟩, trivial⟩ RdDp.ext (by unfold maxLen <;> simp))).mono ?_; rintro e w13 ⟨v13, rfl, b13, o13⟩; have O13 := Lib.hid o13; clear o13; (first | have XE := Ext.trans XE b13 | have XE := Ext.trans (Ext.trans XE (Ext.alloc _ _)) b13)
            go_wp2_with fail
            refine hK.out _ _ (⟨(L1.out.ext XE).c6, (L2.out.ext XE).c6, (L3.out.ext XE).c3, (L4.out.ext XE).c6⟩) (fun hHeld => ?_)
            clear hK K
            try simp only [Act.put, List.getElem_toArray, List.getElem_cons_succ, List.getElem_cons_zero, List.setIfInBounds_toArray, List.set_cons_zero, List.set_cons_succ]
            refine wpAnyH_ready (rs := [13]) (by kernel_rfl) (by simp) ?_
            refine AllReadyH.cons (o := _) rfl (fun K hK => ?_) AllReadyH.nil
            go_simp
            go_at_call 42; refine (HTR.out _ _ (MR.out.ext (by repeat (first | exact Ext.refl _ | refine Ext.trans ?_ (Ext.alloc _ _) | refine Ext.trans ?_ (drew_ext _) | refine Ext.trans ?_ ba | refine Ext.trans ?_ b40 | refine Ext.trans ?_ b39 | refine Ext.trans ?_ b38 | refine Ext.trans ?_ b37 | refine Ext.trans ?_ b36 | refine Ext.trans ?_ b35 | refine Ext.trans ?_ b34 | refine Ext.trans ?_ b33 | refine Ext.trans ?_ b32 | refine Ext.trans ?_ b31 | refine Ext.trans ?_ b30 | refine Ext.trans ?_ b29 | refine Ext.trans ?_ b28 | refine Ext.trans ?_ b27 | refine Ext.trans ?_ b26 | refine Ext.trans ?_ b25 | refine Ext.trans ?_ b24 | refine Ext.trans ?_ b23 | refine Ext.trans ?_ b22 | refine Ext.trans ?_ b21 | refine Ext.trans ?_ b20 | refine Ext.trans ?_ b19 | refine Ext.trans ?_ b18 | refine Ext.trans ?_ b17 | refine Ext.trans ?_ b16 | refine Ext.trans ?_ b15 | refine Ext.trans ?_ b14 | refine Ext.trans ?_ b13 | refine Ext.trans ?_ b12 | refine Ext.trans ?_ b11 | refine Ext.trans ?_ b10 | refine Ext.trans ?_ b9 | refine Ext.trans ?_ b8 | refine Ext.trans ?_ b7 | refine Ext.trans ?_ b6 | refine Ext.trans ?_ b5 | refine Ext.trans ?_ b4 | refine Ext.trans ?_ b3 | refine Ext.trans ?_ b2 | refine Ext.trans ?_ b1)))).mono ?_; rintro e w14 ⟨v14, rfl, b14, o14⟩; have O14 := Lib.hid o14; clear o14; (first | have XE := Ext.trans XE b14 | have XE := Ext.trans (Ext.trans XE (Ext.alloc _ _)) b14)
            go_wp2_with fail
            refine hK.out _ _ (⟨(L1.out.ext XE).c6, (L2.out.ext XE).c6, (L3.out.ext XE).c3, (L4.out.ext XE).c6⟩) (fun hHeld => ?_)
            clear hK K
            try simp only [Act.put, List.getElem_toArray, List.getElem_cons_succ, List.getElem_cons_zero, List.setIfInBounds_toArray, List.set_cons_zero, List.set_cons_succ]
            refine wpAnyH_ready (rs := [15]) (by kernel_rfl) (by simp) ?_
            refine AllReadyH.cons (o := _) rfl (fun K hK => ?_) AllReadyH.nil
            go_simp
            go_at_call 43; refine (HO1.out _ _ (MA.out.ext (by repeat (first | exact Ext.refl _ | refine Ext.trans ?_ (Ext.alloc _ _) | refine Ext.trans ?_ (drew_ext _) | refine Ext.trans ?_ ba | refine Ext.trans ?_ b40 | refine Ext.trans ?_ b39 | refine Ext.trans ?_ b38 | refine Ext.trans ?_ b37 | refine Ext.trans ?_ b36 | refine Ext.trans ?_ b35 | refine Ext.trans ?_ b34 | refine Ext.trans ?_ b33 | refine Ext.trans ?_ b32 | refine Ext.trans ?_ b31 | refine Ext.trans ?_ b30 | refine Ext.trans ?_ b29 | refine Ext.trans ?_ b28 | refine Ext.trans ?_ b27 | refine Ext.trans ?_ b26 | refine Ext.trans ?_ b25 | refine Ext.trans ?_ b24 | refine Ext.trans ?_ b23 | refine Ext.trans ?_ b22 | refine Ext.trans ?_ b21 | refine Ext.trans ?_ b20 | refine Ext.trans ?_ b19 | refine Ext.trans ?_ b18 | refine Ext.trans ?_ b17 | refine Ext.trans ?_ b16 | refine Ext.trans ?_ b15 | refine Ext.trans ?_ b14 | refine Ext.trans ?_ b13 | refine Ext.trans ?_ b12 | refine Ext.trans ?_ b11 | refine Ext.trans ?_ b10 | refine Ext.trans ?_ b9 | refine Ext.trans ?_ b8 | refine Ext.trans ?_ b7 | refine Ext.trans ?_ b6 | refine Ext.trans ?_ b5 | refine Ext.trans ?_ b4 | refine Ext.trans ?_ b3 | refine Ext.trans ?_ b2 | refine Ext.trans ?_ b1)))).mono ?_; rintro e w15 ⟨v15, rfl, b15, o15⟩; have O15 := Lib.hid o15; clear o15; (first | have XE := Ext.trans XE b15 | have XE := Ext.trans (Ext.trans XE (Ext.alloc _ _)) b15)
            go_wp2_with fail
            refine hK.out _ _ (⟨(L1.out.ext XE).c6, (L2.out.ext XE).c6, (L3.out.ext XE).c3, (L4.out.ext XE).c6⟩) (fun hHeld => ?_)
            clear hK K
            try simp only [Act.put, List.getElem_toArray, List.getElem_cons_succ, List.getElem_cons_zero, List.setIfInBounds_toArray, List.set_cons_zero, List.set_cons_succ]
            refine wpAnyH_ready (rs := [16]) (by kernel_rfl) (by simp) ?_
            refine AllReadyH.cons (o := _) rfl (fun K hK => ?_) AllReadyH.nil
            go_simp
            go_at_call 41; refine (HRS.out _ _ _ (O14.out.rd.ext b15) O15.out.rd).mono ?_; rintro e w16 ⟨v16, rfl, b16, o16⟩; have O16 := Lib.hid o16; clear o16; (first | have XE := Ext.trans XE b16 | have XE := Ext.trans (Ext.trans XE (Ext.alloc _ _)) b16); obtain ⟨m0, mm1, mm2, m3, m4, m5, rfl, -, -⟩ := O16.out.rd; have R16 := Lib.hid O16.out.rd
            go_wp2_with fail
            refine hK.out _ _ (⟨(L1.out.ext XE).c6, (L2.out.ext XE).c6, (L3.out.ext XE).c3, (L4.out.ext XE).c6⟩) (fun hHeld => ?_)
            clear hK K
            try simp only [Act.put, List.getElem_toArray, List.getElem_cons_succ, List.getElem_cons_zero, List.setIfInBounds_toArray, List.set_cons_zero, List.set_cons_succ]
            refine wpAnyH_ready (rs := [18]) (by kernel_rfl) (by simp) ?_
            refine AllReadyH.cons (o := _) rfl (fun K hK => ?_) AllReadyH.nil
            go_simp
            go_at_call 43; refine (HO2.out _ _ (MS.out.ext (by repeat (first | exact Ext.refl _ | refine Ext.trans ?_ (Ext.alloc _ _) | refine Ext.trans ?_ (drew_ext _) | refine Ext.trans ?_ ba | refine Ext.trans ?_ b40 | refine Ext.trans ?_ b39 | refine Ext.trans ?_ b38 | refine Ext.trans ?_ b37 | refine Ext.trans ?_ b36 | refine Ext.trans ?_ b35 | refine Ext.trans ?_ b34 | refine Ext.trans ?_ b33 | refine Ext.trans ?_ b32 | refine Ext.trans ?_ b31 | refine Ext.trans ?_ b30 | refine Ext.trans ?_ b29 | refine Ext.trans ?_ b28 | refine Ext.trans ?_ b27 | refine Ext.trans ?_ b26 | refine Ext.trans ?_ b25 | refine Ext.trans ?_ b24 | refine Ext.trans ?_ b23 | refine Ext.trans ?_ b22 | refine Ext.trans ?_ b21 | refine Ext.trans ?_ b20 | refine Ext.trans ?_ b19 | refine Ext.trans ?_ b18 | refine Ext.trans ?_ b17 | refine Ext.trans ?_ b16 | refine Ext.trans ?_ b15 | refine Ext.trans ?_ b14 | refine Ext.trans ?_ b13 | refine Ext.trans ?_ b12 | refine Ext.trans ?_ b11 | refine Ext.trans ?_ b10 | refine Ext.trans ?_ b9 | refine Ext.trans ?_ b8 | refine Ext.trans ?_ b7 | refine Ext.trans ?_ b6 | refine Ext.trans ?_ b5 | refine Ext.trans ?_ b4 | refine Ext.trans ?_ b3 | refine Ext.trans ?_ b2 | refine Ext.trans ?_ b1)))).mono ?_; rintro e w17 ⟨v17, rfl, b17, o17⟩; have O17 := Lib.hid o17; clear o17; (first | have XE := Ext.trans XE b17 | have XE := Ext.trans (Ext.trans XE (Ext.alloc _ _)) b17); obtain ⟨n0, n1, n2, n3, n4, n5, rfl, -, -⟩ := O17.out.rd; have R17 := Lib.hid O17.out.rd
            go_wp2_with fail
            refine hK.out _ _ (⟨(L1.out.ext XE).c6, (L2.out.ext XE).c6, (L3.out.ext XE).c3, (L4.out.ext XE).c6⟩) (fun hHeld => ?_)
            clear hK K
            try simp only [Act.put, List.getElem_toArray, List.getElem_cons_succ, List.getElem_cons_zero, List.setIfInBounds_toArray, List.set_cons_zero, List.set_cons_succ]
            refine wpAnyH_ready (rs := [20]) (by kernel_rfl) (by simp) ?_
            refine AllReadyH.cons (o := _) rfl (fun K hK => ?_) AllReadyH.nil
            go_simp
            go_at_call 43; refine (HO1.out _ _ (MA.out.ext (by repeat (first | exact Ext.refl _ | refine Ext.trans ?_ (Ext.alloc _ _) | refine Ext.trans ?_ (drew_ext _) | refine Ext.trans ?_ ba | refine Ext.trans ?_ b40 | refine Ext.trans ?_ b39 | refine Ext.trans ?_ b38 | refine Ext.trans ?_ b37 | refine Ext.trans ?_ b36 | refine Ext.trans ?_ b35 | refine Ext.trans ?_ b34 | refine Ext.trans ?_ b33 | refine Ext.trans ?_ b32 | refine Ext.trans ?_ b31 | refine Ext.trans ?_ b30 | refine Ext.trans ?_ b29 | refine Ext.trans ?_ b28 | refine Ext.trans ?_ b27 | refine Ext.trans ?_ b26 | refine Ext.trans ?_ b25 | refine Ext.trans ?_ b24 | refine Ext.trans ?_ b23 | refine Ext.trans ?_ b22 | refine Ext.trans ?_ b21 | refine Ext.trans ?_ b20 | refine Ext.trans ?_ b19 | refine Ext.trans ?_ b18 | refine Ext.trans ?_ b17 | refine Ext.trans ?_ b16 | refine Ext.trans ?_ b15 | refine Ext.trans ?_ b14 | refine Ext.trans ?_ b13 | refine Ext.trans ?_ b12 | refine Ext.trans ?_ b11 | refine Ext.trans ?_ b10 | refine Ext.trans ?_ b9 | refine Ext.trans ?_ b8 | refine Ext.trans ?_ b7 | refine Ext.trans ?_ b6 | refine Ext.trans ?_ b5 | refine Ext.trans ?_ b4 | refine Ext.trans ?_ b3 | refine Ext.trans ?_ b2 | refine Ext.trans ?_ b1)))).mono ?_; rintro e w18 ⟨v18, rfl, b18, o18⟩; have O18 := Lib.hid o18; clear o18; (first | have XE := Ext.trans XE b18 | have XE := Ext.trans (Ext.trans XE (Ext.alloc _ _)) b18)
            go_wp2_with fail
            refine hK.out _ _ (⟨(L1.out.ext XE).c6, (L2.out.ext XE).c6, (L3.out.ext XE).c3, (L4.out.ext XE).c6⟩) (fun hHeld => ?_)
            clear hK K
            try simp only [Act.put, List.getElem_toArray, List.getElem_cons_succ, List.getElem_cons_zero, List.setIfInBounds_toArray, List.set_cons_zero, List.set_cons_succ]
            refine wpAnyH_ready (rs := [21]) (by kernel_rfl) (by simp) ?_
            refine AllReadyH.cons (o := _) rfl (fun K hK => ?_) AllReadyH.nil
            go_simp
            go_at_call 44; refine (HRR.out _ _ O18.out.rd).mono ?_; rintro e w19 ⟨v19, rfl, b19, o19⟩; have O19 := Lib.hid o19; clear o19; (first | have XE := Ext.trans XE b19 | have XE := Ext.trans (Ext.trans XE (Ext.alloc _ _)) b19); have R19 := O19; obtain ⟨l0, l1, l2, l3, l4, l5, rfl, -, -⟩ := R19.out
            go_wp2_with fail
            refine hK.out _ _ (⟨(L1.out.ext XE).c6, (L2.out.ext XE).c6, (L3.out.ext XE).c3, (L4.out.ext XE).c6⟩) (fun hHeld => ?_)
            clear hK K
            try simp only [Act.put, List.getElem_toArray, List.getElem_cons_succ, List.getElem_cons_zero, List.setIfInBounds_toArray, List.set_cons_zero, List.set_cons_succ]
            refine wpAnyH_ready (rs := [22]) (by kernel_rfl) (by simp) ?_
            refine AllReadyH.cons (o := _) rfl (fun K hK => ?_) AllReadyH.nil
            go_simp
            refine hK.out _ _ (⟨(L1.out.ext (Ext.trans XE (Ext.alloc _ _))).c6, (L2.out.ext (Ext.trans XE (Ext.alloc _ _))).c6, (L3.out.ext (Ext.trans XE (Ext.alloc _ _))).c3, (L4.out.ext (Ext.trans XE (Ext.alloc _ _))).c6⟩) (fun hHeld => ?_)
            clear hK K
            try simp only [Act.put, List.getElem_toArray, List.getElem_cons_succ, List.getElem_cons_zero, List.setIfInBounds_toArray, List.set_cons_zero, List.set_cons_succ]
            refine wpAnyH_ready (rs := [23]) (by kernel_rfl) (by simp) ?_
            refine AllReadyH.cons (o := _) rfl (fun K hK => ?_) AllReadyH.nil
            go_simp
            go_at_call 36; refine (HSM.out _ _ _ (RdRow.ext (RdRow.mono O13.out.rd (fun _ _ h => OwnE.rd h)) RdEp.ext (Ext.trans (Ext.trans b14 (Ext.trans b15 (Ext.trans b16 (Ext.trans b17 (Ext.trans b18 b19))))) (Ext.alloc _ _))) (RdRow.lit w19 [[m0, mm1, mm2, m3, m4, m5], [n0, n1, n2, n3, n4, n5], [l0, l1, l2, l3, l4, l5]] _ ⟨⟨rfl, R16.out.ext (Ext.trans b17 (Ext.trans b18 b19))⟩, ⟨rfl, R17.out.ext (Ext.trans b18 b19)⟩, ⟨rfl, R19.out⟩, trivial⟩ RdEp.ext (by unfold maxLen <;> simp))).mono ?_; rintro e w20 ⟨_, rfl, b20, rfl⟩; (first | have XE := Ext.trans XE b20 | have XE := Ext.trans (Ext.trans XE (Ext.alloc _ _)) b20)
            go_wp2_with fail
            refine hK.out _ _ (⟨(L1.out.ext XE).c6, (L2.out.ext XE).c6, (L3.out.ext XE).c3, (L4.out.ext XE).c6⟩) (fun hHeld => ?_)
            clear hK K
            try simp only [Act.put, List.getElem_toArray, List.getElem_cons_succ, List.getElem_cons_zero, List.setIfInBounds_toArray, List.set_cons_zero, List.set_cons_succ]
            refine wpAnyH_take (i := 24) (v := ?_) rfl (by kernel_rfl) (by kernel_rfl) (by kernel_rfl) (fun _ _ _ h => h) (Or.inl ⟨by rfl, fun w0 hSw => ?_⟩) hHeld ?_
            rotate_left
            · (try dsimp only at hSw)
              go_simp
              try with_reducible rfl
            simp only [Act.put, List.getElem_toArray, List.getElem_cons_succ, List.getElem_cons_zero, List.setIfInBounds_toArray, List.set_cons_zero, List.set_cons_succ]
            refine wpAnyH_take (i := 25) (v := ?_) rfl (by kernel_rfl) (by kernel_rfl) (by kernel_rfl) (fun _ _ _ h => h) (Or.inl ⟨by rfl, fun w0 hSw => ?_⟩) hHeld ?_
            rotate_left
            · (try dsimp only at hSw)
              go_simp
              try with_reducible rfl
            simp only [Act.put, List.getElem_toArray, List.getElem_cons_succ, List.getElem_cons_zero, List.setIfInBounds_toArray, List.set_cons_zero, List.set_cons_succ]
            refine wpAnyH_take (i := 26) (v := ?_) rfl (by kernel_rfl) (by kernel_rfl) (by kernel_rfl) (fun _ _ _ h => h) (Or.inl ⟨by rfl, fun w0 hSw => ?_⟩) hHeld ?_
            rotate_left
            · (try dsimp only at hSw)
              go_simp
              try with_reducible rfl
            simp only [Act.put, List.getElem_toArray, List.getElem_cons_succ, List.getElem_cons_zero, List.setIfInBounds_toArray, List.set_cons_zero, List.set_cons_succ]
            refine wpAnyH_take (i := 28) (v := ?_) rfl (by kernel_rfl) (by kernel_rfl) (by kernel_rfl) (fun _ _ _ h => h) (Or.inl ⟨by rfl, fun w0 hSw => ?_⟩) hHeld ?_
            rotate_left
            · (try dsimp only at hSw)
              go_simp
              try with_reducible rfl
            simp only [Act.put, List.getElem_toArray, List.getElem_cons_succ, List.getElem_cons_zero, List.setIfInBounds_toArray, List.set_cons_zero, List.set_cons_succ]
            refine wpAnyH_take (i := 29) (v := ?_) rfl (by kernel_rfl) (by kernel_rfl) (by kernel_rfl) (fun _ _ _ h => h) (Or.inl ⟨by rfl, fun w0 hSw => ?_⟩) hHeld ?_
            rotate_left
            · (try dsimp only at hSw)
              go_simp
              try with_reducible rfl
            simp only [Act.put, List.getElem_toArray, List.getElem_cons_succ, List.getElem_cons_zero, List.setIfInBounds_toArray, List.set_cons_zero, List.set_cons_succ]
            refine wpAnyH_take (i := 30) (v := ?_) rfl (by kernel_rfl) (by kernel_rfl) (by kernel_rfl) (fun _ _ _ h => h) (Or.inl ⟨by rfl, fun w0 hSw => ?_⟩) hHeld ?_
            rotate_left
            · (try dsimp only at hSw)
              go_simp
              try with_reducible rfl
            simp only [Act.put, List.getElem_toArray, List.getElem_cons_succ, List.getElem_cons_zero, List.setIfInBounds_toArray, List.set_cons_zero, List.set_cons_succ]
            refine wpAnyH_take (i := 31) (v := ?_) rfl (by kernel_rfl) (by kernel_rfl) (by kernel_rfl) (fun _ _ _ h => h) (Or.inl ⟨by rfl, fun w0 hSw => ?_⟩) hHeld ?_
            rotate_left
            · (try dsimp only at hSw)
              go_simp
              try with_reducible rfl
            simp only [Act.put, List.getElem_toArray, List.getElem_cons_succ, List.getElem_cons_zero, List.setIfInBounds_toArray, List.set_cons_zero, List.set_cons_succ]
            refine wpAnyH_ready (rs := [27]) (by kernel_rfl) (by simp) ?_
            refine AllReadyH.cons (o := _) rfl (fun K hK => ?_) AllReadyH.nil
            go_simp
            go_at_call 45; refine (HCK.out _ _ (MA.out.ext (by repeat (first | exact Ext.refl _ | refine Ext.trans ?_ (Ext.alloc _ _) | refine Ext.trans ?_ (drew_ext _) | refine Ext.trans ?_ ba | refine Ext.trans ?_ b40 | refine Ext.trans ?_ b39 | refine Ext.trans ?_ b38 | refine Ext.trans ?_ b37 | refine Ext.trans ?_ b36 | refine Ext.trans ?_ b35 | refine Ext.trans ?_ b34 | refine Ext.trans ?_ b33 | refine Ext.trans ?_ b32 | refine Ext.trans ?_ b31 | refine Ext.trans ?_ b30 | refine Ext.trans ?_ b29 | refine Ext.trans ?_ b28 | refine Ext.trans ?_ b27 | refine Ext.trans ?_ b26 | refine Ext.trans ?_ b25 | refine Ext.trans ?_ b24 | refine Ext.trans ?_ b23 | refine Ext.trans ?_ b22 | refine Ext.trans ?_ b21 | refine Ext.trans ?_ b20 | refine Ext.trans ?_ b19 | refine Ext.trans ?_ b18 | refine Ext.trans ?_ b17 | refine Ext.trans ?_ b16 | refine Ext.trans ?_ b15 | refine Ext.trans ?_ b14 | refine Ext.trans ?_ b13 | refine Ext.trans ?_ b12 | refine Ext.trans ?_ b11 | refine Ext.trans ?_ b10 | refine Ext.trans ?_ b9 | refine Ext.trans ?_ b8 | refine Ext.trans ?_ b7 | refine Ext.trans ?_ b6 | refine Ext.trans ?_ b5 | refine Ext.trans ?_ b4 | refine Ext.trans ?_ b3 | refine Ext.trans ?_ b2 | refine Ext.trans ?_ b1)))).mono ?_; rintro e w21 ⟨_, rfl, b21, rfl⟩; (first | have XE := Ext.trans XE b21 | have XE := Ext.trans (Ext.trans XE (Ext.alloc _ _)) b21)
            go_wp2_with fail
            refine hK.out _ _ (⟨(L1.out.ext XE).c6, (L2.out.ext XE).c6, (L3.out.ext XE).c3, (L4.out.ext XE).c6⟩) (fun hHeld => ?_)
            clear hK K
            try simp only [Act.put, List.getElem_toArray, List.getElem_cons_succ, List.getElem_cons_zero, List.setIfInBounds_toArray, List.set_cons_zero, List.set_cons_succ]
            refine wpAnyH_ready (rs := [32]) (by kernel_rfl) (by simp) ?_
            refine AllReadyH.cons (o := _) rfl (fun K hK => ?_) AllReadyH.nil
            go_simp
            go_at_call 46; refine (HC1.out _ _ _ (PA.out.ext (by repeat (first | exact Ext.refl _ | refine Ext.trans ?_ (Ext.alloc _ _) | refine Ext.trans ?_ (drew_ext _) | refine Ext.trans ?_ ba | refine Ext.trans ?_ b40 | refine Ext.trans ?_ b39 | refine Ext.trans ?_ b38 | refine Ext.trans ?_ b37 | refine Ext.trans ?_ b36 | refine Ext.trans ?_ b35 | refine Ext.trans ?_ b34 | refine Ext.trans ?_ b33 | refine Ext.trans ?_ b32 | refine Ext.trans ?_ b31 | refine Ext.trans ?_ b30 | refine Ext.trans ?_ b29 | refine Ext.trans ?_ b28 | refine Ext.trans ?_ b27 | refine Ext.trans ?_ b26 | refine Ext.trans ?_ b25 | refine Ext.trans ?_ b24 | refine Ext.trans ?_ b23 | refine Ext.trans ?_ b22 | refine Ext.trans ?_ b21 | refine Ext.trans ?_ b20 | refine Ext.trans ?_ b19 | refine Ext.trans ?_ b18 | refine Ext.trans ?_ b17 | refine Ext.trans ?_ b16 | refine Ext.trans ?_ b15 | refine Ext.trans ?_ b14 | refine Ext.trans ?_ b13 | refine Ext.trans ?_ b12 | refine Ext.trans ?_ b11 | refine Ext.trans ?_ b10 | refine Ext.trans ?_ b9 | refine Ext.trans ?_ b8 | refine Ext.trans ?_ b7 | refine Ext.trans ?_ b6 | refine Ext.trans ?_ b5 | refine Ext.trans ?_ b4 | refine Ext.trans ?_ b3 | refine Ext.trans ?_ b2 | refine Ext.trans ?_ b1))) (PB.out.ext (by repeat (first | exact Ext.refl _ | refine Ext.trans ?_ (Ext.alloc _ _) | refine Ext.trans ?_ (drew_ext _) | refine Ext.trans ?_ ba | refine Ext.trans ?_ b40 | refine Ext.trans ?_ b39 | refine Ext.trans ?_ b38 | refine Ext.trans ?_ b37 | refine Ext.trans ?_ b36 | refine Ext.trans ?_ b35 | refine Ext.trans ?_ b34 | refine Ext.trans ?_ b33 | refine Ext.trans ?_ b32 | refine Ext.trans ?_ b31 | refine Ext.trans ?_ b30 | refine Ext.trans ?_ b29 | refine Ext.trans ?_ b28 | refine Ext.trans ?_ b27 | refine Ext.trans ?_ b26 | refine Ext.trans ?_ b25 | refine Ext.trans ?_ b24 | refine Ext.trans ?_ b23 | refine Ext.trans ?_ b22 | refine Ext.trans ?_ b21 | refine Ext.trans ?_ b20 | refine Ext.trans ?_ b19 | refine Ext.trans ?_ b18 | refine Ext.trans ?_ b17 | refine Ext.trans ?_ b16 | refine Ext.trans ?_ b15 | refine Ext.trans ?_ b14 | refine Ext.trans ?_ b13 | refine Ext.trans ?_ b12 | refine Ext.trans ?_ b11 | refine Ext.trans ?_ b10 | refine Ext.trans ?_ b9 | refine Ext.trans ?_ b8 | refine Ext.trans ?_ b7 | refine Ext.trans ?_ b6 | refine Ext.trans ?_ b5 | refine Ext.trans ?_ b4 | refine Ext.trans ?_ b3 | refine Ext.trans ?_ b2 | refine Ext.trans ?_ b1)))).mono ?_; rintro e w22 ⟨_, rfl, b22, rfl⟩; (first | have XE := Ext.trans XE b22 | have XE := Ext.trans (Ext.trans XE (Ext.alloc _ _)) b22)
            go_wp2_with fail
            refine hK.out _ _ (⟨(L1.out.ext XE).c6, (L2.out.ext XE).c6, (L3.out.ext XE).c3, (L4.out.ext XE).c6⟩) (fun hHeld => ?_)
            clear hK K
            try simp only [Act.put, List.getElem_toArray, List.getElem_cons_succ, List.getElem_cons_zero, List.setIfInBounds_toArray, List.set_cons_zero, List.set_cons_succ]
            refine wpAnyH_take (i := 33) (v := ?_) rfl (by kernel_rfl) (by kernel_rfl) (by kernel_rfl) (fun _ _ _ h => h) (Or.inl ⟨by rfl, fun w0 hSw => ?_⟩) hHeld ?_
            rotate_left
            · (try dsimp only at hSw)
              go_simp
              try with_reducible rfl
            simp only [Act.put, List.getElem_toArray, List.getElem_cons_succ, List.getElem_cons_zero, List.setIfInBounds_toArray, List.set_cons_zero, List.set_cons_succ]
            refine wpAnyH_take (i := 34) (v := ?_) rfl (by kernel_rfl) (by kernel_rfl) (by kernel_rfl) (fun _ _ _ h => h) (Or.inl ⟨by rfl, fun w0 hSw => ?_⟩) hHeld ?_
            rotate_left
            · (try dsimp only at hSw)
              go_simp
              try with_reducible rfl
            simp only [Act.put, List.getElem_toArray, List.getElem_cons_succ, List.getElem_cons_zero, List.setIfInBounds_toArray, List.set_cons_zero, List.set_cons_succ]
            refine wpAnyH_take (i := 35) (v := ?_) rfl (by kernel_rfl) (by kernel_rfl) (by kernel_rfl) (fun _ _ _ h => h) (Or.inl ⟨by rfl, fun w0 hSw => ?_⟩) hHeld ?_
            rotate_left
            · (try dsimp only at hSw)
              go_simp
              try with_reducible rfl
            simp only [Act.put, List.getElem_toArray, List.getElem_cons_succ, List.getElem_cons_zero, List.setIfInBounds_toArray, List.set_cons_zero, List.set_cons_succ]
            refine wpAnyH_take (i := 36) (v := ?_) rfl (by kernel_rfl) (by kernel_rfl) (by kernel_rfl) (fun _ _ _ h => h) (Or.inl ⟨by rfl, fun w0 hSw => ?_⟩) hHeld ?_
            rotate_left
            · (try dsimp only at hSw)
              go_simp
              try with_reducible rfl
            simp only [Act.put, List.getElem_toArray, List.getElem_cons_succ, List.getElem_cons_zero, List.setIfInBounds_toArray, List.set_cons_zero, List.set_cons_succ]
            refine wpAnyH_take (i := 37) (v := ?_) rfl (by kernel_rfl) (by kernel_rfl) (by kernel_rfl) (fun _ _ _ h => h) (Or.inl ⟨by rfl, fun w0 hSw => ?_⟩) hHeld ?_
            rotate_left
            · (try dsimp only at hSw)
              go_simp
              try with_reducible rfl
            simp only [Act.put, List.getElem_toArray, List.getElem_cons_succ, List.getElem_cons_zero, List.setIfInBounds_toArray, List.set_cons_zero, List.set_cons_succ]
            refine wpAnyH_take (i := 38) (v := ?_) rfl (by kernel_rfl) (by kernel_rfl) (by kernel_rfl) (fun _ _ _ h => h) (Or.inl ⟨by rfl, fun w0 hSw => ?_⟩) hHeld ?_
            rotate_left
            · (try dsimp only at hSw)
              go_simp
              try with_reducible rfl
            simp only [Act.put, List.getElem_toArray, List.getElem_cons_succ, List.getElem_cons_zero, List.setIfInBounds_toArray, List.set_cons_zero, List.set_cons_succ]
            refine wpAnyH_take (i := 40) (v := ?_) rfl (by kernel_rfl) (by kernel_rfl) (by kernel_rfl) (fun _ _ _ h => h) (Or.inl ⟨by rfl, fun w0 hSw => ?_⟩) hHeld ?_
            rotate_left
            · (try dsimp only at hSw)
              go_simp
              try with_reducible rfl
            simp only [Act.put, List.getElem_toArray, List.getElem_cons_succ, List.getElem_cons_zero, List.setIfInBounds_toArray, List.set_cons_zero, List.set_cons_succ]
            refine wpAnyH_take (i := 41) (v := ?_) rfl (by kernel_rfl) (by kernel_rfl) (by kernel_rfl) (fun _ _ _ h => h) (Or.inl ⟨by rfl, fun w0 hSw => ?_⟩) hHeld ?_
            rotate_left
            · (try dsimp only at hSw)
              go_simp
              try with_reducible rfl
            simp only [Act.put, List.getElem_toArray, List.getElem_cons_succ, List.getElem_cons_zero, List.setIfInBounds_toArray, List.set_cons_zero, List.set_cons_succ]
            refine wpAnyH_take (i := 42) (v := ?_) rfl (by kernel_rfl) (by kernel_rfl) (by kernel_rfl) (fun _ _ _ h => h) (Or.inl ⟨by rfl, fun w0 hSw => ?_⟩) hHeld ?_
            rotate_left
            · (try dsimp only at hSw)
              go_simp
              try with_reducible rfl
            simp only [Act.put, List.getElem_toArray, List.getElem_cons_succ, List.getElem_cons_zero, List.setIfInBounds_toArray, List.set_cons_zero, List.set_cons_succ]
            refine wpAnyH_ready (rs := [39]) (by kernel_rfl) (by simp) ?_
            refine AllReadyH.cons (o := _) rfl (fun K hK => ?_) AllReadyH.nil
            go_simp
            go_at_call 47; refine (HHS.out _ _ _ (MA.out.ext (by repeat (first | exact Ext.refl _ | refine Ext.trans ?_ (Ext.alloc _ _) | refine Ext.trans ?_ (drew_ext _) | refine Ext.trans ?_ ba | refine Ext.trans ?_ b40 | refine Ext.trans ?_ b39 | refine Ext.trans ?_ b38 | refine Ext.trans ?_ b37 | refine Ext.trans ?_ b36 | refine Ext.trans ?_ b35 | refine Ext.trans ?_ b34 | refine Ext.trans ?_ b33 | refine Ext.trans ?_ b32 | refine Ext.trans ?_ b31 | refine Ext.trans ?_ b30 | refine Ext.trans ?_ b29 | refine Ext.trans ?_ b28 | refine Ext.trans ?_ b27 | refine Ext.trans ?_ b26 | refine Ext.trans ?_ b25 | refine Ext.trans ?_ b24 | refine Ext.trans ?_ b23 | refine Ext.trans ?_ b22 | refine Ext.trans ?_ b21 | refine Ext.trans ?_ b20 | refine Ext.trans ?_ b19 | refine Ext.trans ?_ b18 | refine Ext.trans ?_ b17 | refine Ext.trans ?_ b16 | refine Ext.trans ?_ b15 | refine Ext.trans ?_ b14 | refine Ext.trans ?_ b13 | refine Ext.trans ?_ b12 | refine Ext.trans ?_ b11 | refine Ext.trans ?_ b10 | refine Ext.trans ?_ b9 | refine Ext.trans ?_ b8 | refine Ext.trans ?_ b7 | refine Ext.trans ?_ b6 | refine Ext.trans ?_ b5 | refine Ext.trans ?_ b4 | refine Ext.trans ?_ b3 | refine Ext.trans ?_ b2 | refine Ext.trans ?_ b1))) (MR.out.ext (by repeat (first | exact Ext.refl _ | refine Ext.trans ?_ (Ext.alloc _ _) | refine Ext.trans ?_ (drew_ext _) | refine Ext.trans ?_ ba | refine Ext.trans ?_ b40 | refine Ext.trans ?_ b39 | refine Ext.trans ?_ b38 | refine Ext.trans ?_ b37 | refine Ext.trans ?_ b36 | refine Ext.trans ?_ b35 | refine Ext.trans ?_ b34 | refine Ext.trans ?_ b33 | refine Ext.trans ?_ b32 | refine Ext.trans ?_ b31 | refine Ext.trans ?_ b30 | refine Ext.trans ?_ b29 | refine Ext.trans ?_ b28 | refine Ext.trans ?_ b27 | refine Ext.trans ?_ b26 | refine Ext.trans ?_ b25 | refine Ext.trans ?_ b24 | refine Ext.trans ?_ b23 | refine Ext.trans ?_ b22 | refine Ext.trans ?_ b21 | refine Ext.trans ?_ b20 | refine Ext.trans ?_ b19 | refine Ext.trans ?_ b18 | refine Ext.trans ?_ b17 | refine Ext.trans ?_ b16 | refine Ext.trans ?_ b15 | refine Ext.trans ?_ b14 | refine Ext.trans ?_ b13 | refine Ext.trans ?_ b12 | refine Ext.trans ?_ b11 | refine Ext.trans ?_ b10 | refine Ext.trans ?_ b9 | refine Ext.trans ?_ b8 | refine Ext.trans ?_ b7 | refine Ext.trans ?_ b6 | refine Ext.trans ?_ b5 | refine Ext.trans ?_ b4 | refine Ext.trans ?_ b3 | refine Ext.trans ?_ b2 | refine Ext.trans ?_ b1)))).mono ?_; rintro e w23 ⟨_, rfl, b23, rfl⟩; (first | have XE := Ext.trans XE b23 | have XE := Ext.trans (Ext.trans XE (Ext.alloc _ _)) b23)
            go_wp2_with fail
            refine hK.out _ _ (⟨(L1.out.ext XE).c6, (L2.out.ext XE).c6, (L3.out.ext XE).c3, (L4.out.ext XE).c6⟩) (fun hHeld => ?_)
            clear hK K
            try simp only [Act.put, List.getElem_toArray, List.getElem_cons_succ, List.getElem_cons_zero, List.setIfInBounds_toArray, List.set_cons_zero, List.set_cons_succ]
            refine wpAnyH_ready (rs := [43]) (by kernel_rfl) (by simp) ?_
            refine AllReadyH.cons (o := _) rfl (fun K hK => ?_) AllReadyH.nil
            go_simp
            go_at_call 46; refine (HC2.out _ _ _ (PA.out.ext (by repeat (first | exact Ext.refl _ | refine Ext.trans ?_ (Ext.alloc _ _) | refine Ext.trans ?_ (drew_ext _) | refine Ext.trans ?_ ba | refine Ext.trans ?_ b40 | refine Ext.trans ?_ b39 | refine Ext.trans ?_ b38 | refine Ext.trans ?_ b37 | refine Ext.trans ?_ b36 | refine Ext.trans ?_ b35 | refine Ext.trans ?_ b34 | refine Ext.trans ?_ b33 | refine Ext.trans ?_ b32 | refine Ext.trans ?_ b31 | refine Ext.trans ?_ b30 | refine Ext.trans ?_ b29 | refine Ext.trans ?_ b28 | refine Ext.trans ?_ b27 | refine Ext.trans ?_ b26 | refine Ext.trans ?_ b25 | refine Ext.trans ?_ b24 | refine Ext.trans ?_ b23 | refine Ext.trans ?_ b22 | refine Ext.trans ?_ b21 | refine Ext.trans ?_ b20 | refine Ext.trans ?_ b19 | refine Ext.trans ?_ b18 | refine Ext.trans ?_ b17 | refine Ext.trans ?_ b16 | refine Ext.trans ?_ b15 | refine Ext.trans ?_ b14 | refine Ext.trans ?_ b13 | refine Ext.trans ?_ b12 | refine Ext.trans ?_ b11 | refine Ext.trans ?_ b10 | refine Ext.trans ?_ b9 | refine Ext.trans ?_ b8 | refine Ext.trans ?_ b7 | refine Ext.trans ?_ b6 | refine Ext.trans ?_ b5 | refine Ext.trans ?_ b4 | refine Ext.trans ?_ b3 | refine Ext.trans ?_ b2 | refine Ext.trans ?_ b1))) (MR.out.ext (by repeat (first | exact Ext.refl _ | refine Ext.trans ?_ (Ext.alloc _ _) | refine Ext.trans ?_ (drew_ext _) | refine Ext.trans ?_ ba | refine Ext.trans ?_ b40 | refine Ext.trans ?_ b39 | refine Ext.trans ?_ b38 | refine Ext.trans ?_ b37 | refine Ext.trans ?_ b36 | refine Ext.trans ?_ b35 | refine Ext.trans ?_ b34 | refine Ext.trans ?_ b33 | refine Ext.trans ?_ b32 | refine Ext.trans ?_ b31 | refine Ext.trans ?_ b30 | refine Ext.trans ?_ b29 | refine Ext.trans ?_ b28 | refine Ext.trans ?_ b27 | refine Ext.trans ?_ b26 | refine Ext.trans ?_ b25 | refine Ext.trans ?_ b24 | refine Ext.trans ?_ b23 | refine Ext.trans ?_ b22 | refine Ext.trans ?_ b21 | refine Ext.trans ?_ b20 | refine Ext.trans ?_ b19 | refine Ext.trans ?_ b18 | refine Ext.trans ?_ b17 | refine Ext.trans ?_ b16 | refine Ext.trans ?_ b15 | refine Ext.trans ?_ b14 | refine Ext.trans ?_ b13 | refine Ext.trans ?_ b12 | refine Ext.trans ?_ b11 | refine Ext.trans ?_ b10 | refine Ext.trans ?_ b9 | refine Ext.trans ?_ b8 | refine Ext.trans ?_ b7 | refine Ext.trans ?_ b6 | refine Ext.trans ?_ b5 | refine Ext.trans ?_ b4 | refine Ext.trans ?_ b3 | refine Ext.trans ?_ b2 | refine Ext.trans ?_ b1)))).mono ?_; rintro e w24 ⟨_, rfl, b24, rfl⟩; (first | have XE := Ext.trans XE b24 | have XE := Ext.trans (Ext.trans XE (Ext.alloc _ _)) b24)
            go_wp2_with fail
            refine hK.out _ _ (⟨(L1.out.ext XE).c6, (L2.out.ext XE).c6, (L3.out.ext XE).c3, (L4.out.ext XE).c6⟩) (fun hHeld => ?_)
            clear hK K
            try simp only [Act.put, List.getElem_toArray, List.getElem_cons_succ, List.getElem_cons_zero, List.setIfInBounds_toArray, List.set_cons_zero, List.set_cons_succ]
            refine wpAnyH_take (i := 44) (v := ?_) rfl (by kernel_rfl) (by kernel_rfl) (by kernel_rfl) (fun _ _ _ h => h) (Or.inl ⟨by rfl, fun w0 hSw => ?_⟩) hHeld ?_
            rotate_left
            · (try dsimp only at hSw)
              go_simp
              try with_reducible rfl
            simp only [Act.put, List.getElem_toArray, List.getElem_cons_succ, List.getElem_cons_zero, List.setIfInBounds_toArray, List.set_cons_zero, List.set_cons_succ]
            refine wpAnyH_take (i := 45) (v := ?_) rfl (by kernel_rfl) (by kernel_rfl) (by kernel_rfl) (fun _ _ _ h => h) (Or.inl ⟨by rfl, fun w0 hSw => ?_⟩) hHeld ?_
            rotate_left
            · (try dsimp only at hSw)
              go_simp
              try with_reducible rfl
            simp only [Act.put, List.getElem_toArray, List.getElem_cons_succ, List.getElem_cons_zero, List.setIfInBounds_toArray, List.set_cons_zero, List.set_cons_succ]
            refine wpAnyH_take (i := 46) rfl (by kernel_rfl) (by kernel_rfl) (by kernel_rfl) (fun _ _ _ h => h) (Or.inr ⟨by rfl, rfl⟩) hHeld ?_
            simp only [Act.put, List.getElem_toArray, List.getElem_cons_succ, List.getElem_cons_zero, List.setIfInBounds_toArray, List.set_cons_zero, List.set_cons_succ]
            refine wpAnyH_take (i := 47) rfl (by kernel_rfl) (by kernel_rfl) (by kernel_rfl) (fun _ _ _ h => h) (Or.inr ⟨by rfl, rfl⟩) hHeld ?_
            simp only [Act.put, List.getElem_toArray, List.getElem_cons_succ, List.getElem_cons_zero, List.setIfInBounds_toArray, List.set_cons_zero, List.set_cons_succ]
            refine wpAnyH_take (i := 48) rfl (by kernel_rfl) (by kernel_rfl) (by kernel_rfl) (fun _ _ _ h => h) (Or.inr ⟨by rfl, rfl⟩) hHeld ?_
            simp only [Act.put, List.getElem_toArray, List.getElem_cons_succ, List.getElem_cons_zero, List.setIfInBounds_toArray, List.set_cons_zero, List.set_cons_succ]
            refine wpAnyH_take (i := 49) rfl (by kernel_rfl) (by kernel_rfl) (by kernel_rfl) (fun _ _ _ h => h) (Or.inr ⟨by rfl, rfl⟩) hHeld ?_
            simp only [Act.put, List.getElem_toArray, List.getElem_cons_succ, List.getElem_cons_zero, List.setIfInBounds_toArray, List.set_cons_zero, List.set_cons_succ]
            refine wpAnyH_take (i := 50) rfl (by kernel_rfl) (by kernel_rfl) (by kernel_rfl) (fun _ _ _ h => h) (Or.inr ⟨by rfl, rfl⟩) hHeld ?_
            simp only [Act.put, List.getElem_toArray, List.getElem_cons_succ, List.getElem_cons_zero, List.setIfInBounds_toArray, List.set_cons_zero, List.set_cons_succ]
            refine wpAnyH_take (i := 51) (v := ?_) rfl (by kernel_rfl) (by kernel_rfl) (by kernel_rfl) (fun _ _ _ h => h) (Or.inl ⟨by rfl, fun w0 hSw => ?_⟩) hHeld ?_
            rotate_left
            · (try dsimp only at hSw)
              go_simp
              try with_reducible rfl
            simp only [Act.put, List.getElem_toArray, List.getElem_cons_succ, List.getElem_cons_zero, List.setIfInBounds_toArray, List.set_cons_zero, List.set_cons_succ]
            refine wpAnyH_take (i := 52) (v := ?_) rfl (by kernel_rfl) (by kernel_rfl) (by kernel_rfl) (fun _ _ _ h => h) (Or.inl ⟨by rfl, fun w0 hSw => ?_⟩) hHeld ?_
            rotate_left
            · (try dsimp only at hSw)
              go_simp
              try with_reducible rfl
            simp only [Act.put, List.getElem_toArray, List.getElem_cons_succ, List.getElem_cons_zero, List.setIfInBounds_toArray, List.set_cons_zero, List.set_cons_succ]
            refine wpAnyH_take (i := 53) (v := ?_) rfl (by kernel_rfl) (by kernel_rfl) (by kernel_rfl) (fun _ _ _ h => h) (Or.inl ⟨by rfl, fun w0 hSw => ?_⟩) hHeld ?_
            rotate_left
            · (try dsimp only at hSw)
              go_simp
              try with_reducible rfl
            simp only [Act.put, List.getElem_toArray, List.getElem_cons_succ, List.getElem_cons_zero, List.setIfInBounds_toArray, List.set_cons_zero, List.set_cons_succ]
            refine wpAnyH_take (i := 54) (v := ?_) rfl (by kernel_rfl) (by kernel_rfl) (by kernel_rfl) (fun _ _ _ h => h) (Or.inl ⟨by rfl, fun w0 hSw => ?_⟩) hHeld ?_
            rotate_left
            · (try dsimp only at hSw)
              go_simp
              try with_reducible rfl
            simp only [Act.put, List.getElem_toArray, List.getElem_cons_succ, List.getElem_cons_zero, List.setIfInBounds_toArray, List.set_cons_zero, List.set_cons_succ]
            refine wpAnyH_take (i := 55) (v := ?_) rfl (by kernel_rfl) (by kernel_rfl) (by kernel_rfl) (fun _ _ _ h => h) (Or.inl ⟨by rfl, fun w0 hSw => ?_⟩) hHeld ?_
            rotate_left
            · (try dsimp only at hSw)
              go_simp
              try with_reducible rfl
            simp only [Act.put, List.getElem_toArray, List.getElem_cons_succ, List.getElem_cons_zero, List.setIfInBounds_toArray, List.set_cons_zero, List.set_cons_succ]
            refine wpAnyH_take (i := 57) (v := ?_) rfl (by kernel_rfl) (by kernel_rfl) (by kernel_rfl) (fun _ _ _ h => h) (Or.inl ⟨by rfl, fun w0 hSw => ?_⟩) hHeld ?_
            rotate_left
            · (try dsimp only at hSw)
              go_simp
              try with_reducible rfl
            simp only [Act.put, List.getElem_toArray, List.getElem_cons_succ, List.getElem_cons_zero, List.setIfInBounds_toArray, List.set_cons_zero, List.set_cons_succ]
            refine wpAnyH_ready (rs := [56]) (by kernel_rfl) (by simp) ?_
            refine AllReadyH.cons (o := _) rfl (fun K hK => ?_) AllReadyH.nil
            go_simp
            go_at_call 48; refine (HPS.out _ _ (MA.out.ext (by repeat (first | exact Ext.refl _ | refine Ext.trans ?_ (Ext.alloc _ _) | refine Ext.trans ?_ (drew_ext _) | refine Ext.trans ?_ ba | refine Ext.trans ?_ b40 | refine Ext.trans ?_ b39 | refine Ext.trans ?_ b38 | refine Ext.trans ?_ b37 | refine Ext.trans ?_ b36 | refine Ext.trans ?_ b35 | refine Ext.trans ?_ b34 | refine Ext.trans ?_ b33 | refine Ext.trans ?_ b32 | refine Ext.trans ?_ b31 | refine Ext.trans ?_ b30 | refine Ext.trans ?_ b29 | refine Ext.trans ?_ b28 | refine Ext.trans ?_ b27 | refine Ext.trans ?_ b26 | refine Ext.trans ?_ b25 | refine Ext.trans ?_ b24 | refine Ext.trans ?_ b23 | refine Ext.trans ?_ b22 | refine Ext.trans ?_ b21 | refine Ext.trans ?_ b20 | refine Ext.trans ?_ b19 | refine Ext.trans ?_ b18 | refine Ext.trans ?_ b17 | refine Ext.trans ?_ b16 | refine Ext.trans ?_ b15 | refine Ext.trans ?_ b14 | refine Ext.trans ?_ b13 | refine Ext.trans ?_ b12 | refine Ext.trans ?_ b11 | refine Ext.trans ?_ b10 | refine Ext.trans ?_ b9 | refine Ext.trans ?_ b8 | refine Ext.trans ?_ b7 | refine Ext.trans ?_ b6 | refine Ext.trans ?_ b5 | refine Ext.trans ?_ b4 | refine Ext.trans ?_ b3 | refine Ext.trans ?_ b2 | refine Ext.trans ?_ b1)))).mono ?_; rintro e w25 ⟨_, rfl, b25, rfl⟩; (first | have XE := Ext.trans XE b25 | have XE := Ext.trans (Ext.trans XE (Ext.alloc _ _)) b25)
            go_wp2_with fail
            refine hK.out _ _ (⟨(L1.out.ext XE).c6, (L2.out.ext XE).c6, (L3.out.ext XE).c3, (L4.out.ext XE).c6⟩) (fun hHeld => ?_)
            clear hK K
            try simp only [Act.put, List.getElem_toArray, List.getElem_cons_succ, List.getElem_cons_zero, List.setIfInBounds_toArray, List.set_cons_zero, List.set_cons_succ]
            refine wpAnyH_take (i := 58) (v := ?_) rfl (by kernel_rfl) (by kernel_rfl) (by kernel_rfl) (fun _ _ _ h => h) (Or.inl ⟨by rfl, fun w0 hSw => ?_⟩) hHeld ?_
            rotate_left
            · (try dsimp only at hSw)
              go_simp
              try with_reducible rfl
            simp only [Act.put, List.getElem_toArray, List.getElem_cons_succ, List.getElem_cons_zero, List.setIfInBounds_toArray, List.set_cons_zero, List.set_cons_succ]
            refine wpAnyH_take (i := 59) (v := ?_) rfl (by kernel_rfl) (by kernel_rfl) (by kernel_rfl) (fun _ _ _ h => h) (Or.inl ⟨by rfl, fun w0 hSw => ?_⟩) hHeld ?_
            rotate_left
            · (try dsimp only at hSw)
              go_simp
              try with_reducible rfl
            simp only [Act.put, List.getElem_toArray, List.getElem_cons_succ, List.getElem_cons_zero, List.setIfInBounds_toArray, List.set_cons_zero, List.set_cons_succ]
            refine wpAnyH_take (i := 60) (v := ?_) rfl (by kernel_rfl) (by kernel_rfl) (by kernel_rfl) (fun _ _ _ h => h) (Or.inl ⟨by rfl, fun w0 hSw => ?_⟩) hHeld ?_
            rotate_left
            · (try dsimp only at hSw)
              go_simp
              try with_reducible rfl
            simp only [Act.put, List.getElem_toArray, List.getElem_cons_succ, List.getElem_cons_zero, List.setIfInBounds_toArray, List.set_cons_zero, List.set_cons_succ]
            refine wpAnyH_done (by kernel_rfl) ?_ _
            refine NoPanic.normal ?_
            go_wp2_with fail
            exact hR.out _ _ (Gives.mk (Ext.trans b07 (by repeat (first | exact Ext.refl _ | refine Ext.trans ?_ (Ext.alloc _ _) | refine Ext.trans ?_ (drew_ext _) | refine Ext.trans ?_ ba | refine Ext.trans ?_ b40 | refine Ext.trans ?_ b39 | refine Ext.trans ?_ b38 | refine Ext.trans ?_ b37 | refine Ext.trans ?_ b36 | refine Ext.trans ?_ b35 | refine Ext.trans ?_ b34 | refine Ext.trans ?_ b33 | refine Ext.trans ?_ b32 | refine Ext.trans ?_ b31 | refine Ext.trans ?_ b30 | refine Ext.trans ?_ b29 | refine Ext.trans ?_ b28 | refine Ext.trans ?_ b27 | refine Ext.trans ?_ b26 | refine Ext.trans ?_ b25 | refine Ext.trans ?_ b24 | refine Ext.trans ?_ b23 | refine Ext.trans ?_ b22 | refine Ext.trans ?_ b21 | refine Ext.trans ?_ b20 | refine Ext.trans ?_ b19 | refine Ext.trans ?_ b18 | refine Ext.trans ?_ b17 | refine Ext.trans ?_ b16 | refine Ext.trans ?_ b15 | refine Ext.trans ?_ b14 | refine Ext.trans ?_ b13 | refine Ext.trans ?_ b12 | refine Ext.trans ?_ b11 | refine Ext.trans ?_ b10 | refine Ext.trans ?_ b9 | refine Ext.trans ?_ b8 | refine Ext.trans ?_ b7 | refine Ext.trans ?_ b6 | refine Ext.trans ?_ b5 | refine Ext.trans ?_ b4 | refine Ext.trans ?_ b3 | refine Ext.trans ?_ b2 | refine Ext.trans ?_ b1))) rfl)
theorem own : ownKnob Try.prog.godebug = none := by kernel_rfl
theorem laidOut : laidOutB Try.prog = true := by kernel_rfl

set_option maxRecDepth 100000 in
theorem contract (H : Type) (enc : TypeId × Value → H) (W : World) (base : Nat) (args : Array Value) (ds gs : List (DataW H)) (before : List MemPlace)
    (hval : ∀ (j : Nat) t v, Try.f4.params[j]? = some t → args[j]? = some v → Value.okWide Try.prog W .any base t v)
    (hW : DataW.Whole enc Try.prog Try.f4.params.toList Rows.spanEndsSpec.vars false W args.toList ds gs before) (hk : Rows.uptoSmall H (ds ++ gs) = true) :
    Calls Try.prog 4 args W fun e W' => ∃ v, e = .returned v ∧ Rows.spanEndsSpec.post enc Try.prog Try.f4 false true false false W args v W' := by
  have hW' := hW
  obtain ⟨p, q, hA0, hV, rfl, hfz, hnd⟩ := hW
  have hA : DataW.TrodAll enc Try.prog W 0 (fun _ => true) true Try.f4.params.toList args.toList ds p := hA0
  rw [Try.params4] at hA hval
  obtain ⟨v0, vs0, d0, ds0, p0, q0, hargs, rfl, rfl, h0, r0⟩ := trodAll_cons hA
  obtain ⟨v1, vs1, d1, ds1, p1, q1, rfl, rfl, rfl, h1, r1⟩ := trodAll_cons r0
  obtain ⟨v2, vs2, d2, ds2, p2, q2, rfl, rfl, rfl, h2, r2⟩ := trodAll_cons r1
  obtain ⟨rfl, rfl, rfl⟩ := trodAll_nil r2
  obtain rfl : args = #[v0, v1, v2] := by cases args; simp_all
  obtain ⟨rfl, rfl⟩ := trodVars_none hV
  have hb := bulk_small hk
  simp only [List.append_nil, bulk_cons, bulk_nil] at hb
  have k0 := h0
  have lt0 : ∀ x ∈ p0, x.block < W.heap.size := by obtain ⟨m, hm⟩ := k0; exact DataW.trod_lt m _ _ _ hm
  obtain ⟨s0, x0, y0, s0', x0', y0', rd0, len0⟩ := open_two Try.underlying54 rfl rfl rfl rfl (by kernel_rfl) (hval 0 54 v0 rfl rfl) h0
  have k1 := h1
  have lt1 : ∀ x ∈ p1, x.block < W.heap.size := by obtain ⟨m, hm⟩ := k1; exact DataW.trod_lt m _ _ _ hm
  obtain ⟨s1, x1, y1, s1', x1', y1', rd1, len1⟩ := open_two Try.underlying54 rfl rfl rfl rfl (by kernel_rfl) (hval 1 54 v1 rfl rfl) h1
  have k2 := h2
  have lt2 : ∀ x ∈ p2, x.block < W.heap.size := by obtain ⟨m, hm⟩ := k2; exact DataW.trod_lt m _ _ _ hm
  obtain ⟨s2, x2, y2, rd2, len2⟩ := open_N (hval 2 24 v2 rfl rfl) h2
  clear hA0
  refine (walk rd0 (by omega) (by omega) (by omega) (by omega) rd1 (by omega) (by omega) (by omega) (by omega) rd2 (by omega) (by omega)).mono fun e W' ⟨v, he, bel, hv⟩ => ?_
  subst he hv
  exact ⟨_, rfl, _, _, _, [], _, [], hW', trodAll_mk1 (shut_bool Try.underlying4 _), (trodAll_cons_mk (Below.trod laidOut (by kernel_rfl) (of_decide_eq_true (by kernel_rfl)) k0 bel lt0) (trodAll_cons_mk (Below.trod laidOut (by kernel_rfl) (of_decide_eq_true (by kernel_rfl)) k1 bel lt1) (trodAll_cons_mk (Below.trod laidOut (by kernel_rfl) (of_decide_eq_true (by kernel_rfl)) k2 bel lt2) trodAll_mk0))), rfl, bel.frame _, fun h => by cases h⟩

set_option maxRecDepth 100000 in
theorem lifted (os : Os) (started : os.Started) (H : Type) (enc : TypeId × Value → H) (F : Stop.Interp) :
    ReturnsInHanded {} Try.checked os 4 .any ((Rows.OpenSpec.upto Rows.spanEndsSpec).pre6 enc Try.prog Try.f4 Rows.spanEndsUptoRow.domain false) (((Rows.OpenSpec.upto Rows.spanEndsSpec).at F).post enc Try.prog Try.f4 false true false false) := by
  refine returnsInHanded_of_cond (C := Try.checked) (s := Rows.OpenSpec.upto Rows.spanEndsSpec) (k := Rows.uptoSmall) rfl own started (by kernel_rfl) Try.func4
    (OpenSpec.witness (enc := enc) (C := Try.checked) (s := Rows.OpenSpec.upto Rows.spanEndsSpec) (k := Rows.uptoSmall) rfl false ⟨#[], #[.agg #[.bool false, .slice none 0 0, .slice none 0 0, .bool false, .slice none 0 0, .slice none 0 0], .agg #[.bool false, .slice none 0 0, .slice none 0 0, .bool false, .slice none 0 0, .slice none 0 0], .agg #[.bool false, .slice none 0 0, .slice none 0 0]], []⟩ 8 (by kernel_rfl) (by kernel_rfl) (by kernel_rfl)
      (x := ([.agg [.agg [.lit (.bool false), .nil, .nil], .agg [.lit (.bool false), .nil, .nil]], .agg [.agg [.lit (.bool false), .nil, .nil], .agg [.lit (.bool false), .nil, .nil]], .agg [.lit (.bool false), .nil, .nil]], [], [])) (by kernel_rfl) rfl (by kernel_rfl)) ?_
  intro W base args ds gs before hval hW _ hk _
  exact contract H enc W base args ds gs before hval hW hk

theorem proved : Rows.SpanEndsUptoSaid :=
  OpenClaim.holds_of_cond 4 Try.f4 rfl rfl rfl rfl rfl rfl rfl ⟨rfl, rfl, rfl, rfl, rfl⟩ rfl rfl rfl rfl rfl (by kernel_rfl) Try.func4 (by kernel_rfl)
    (of_decide_eq_true (by kernel_rfl)) (by unfold Func.isWrapper; first | (rw [if_pos (by decide +kernel)]; kernel_rfl) | (rw [if_neg (by decide +kernel)]; exact ⟨rfl, rfl⟩))
    (fun os started H enc _ F => lifted os started H enc F)
#print axioms proved

end Go.Proofs.Ytpeeacdnjbcmiaa.spanEnds
