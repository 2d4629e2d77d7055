/- LinLends: no call changes the expressions that it is given, nor the room behind their terms. Conditions: the arguments hold together at most 1048576 values (the second form, Upto). -/
import Derived.Test.YtnbbhpihlcglgaaFrameE
import Derived.Test.YtnbbhpihlcglgaaLend8
import Derived.Test.YtnbbhpihlcglgaaPLinSubst
import Derived.Test.YtnbbhpihlcglgaaPAwake08
import Derived.Great.BuildSlice
namespace Go.Proofs.Ytnbbhpihlcglgaa.linLends
open Go.ChangeShapes Go.WideShapes Go.ChangeAt Go.RowKit Go.Att

theorem fill4 (x0 x1 x2 x3 y0 y1 y2 y3 z0 z1 z2 z3 u0 u1 u2 u3 : Value) :
    Instr.fill (fun i => some (i * 4, 4)) ((Array.range (4 * 4)).map ((Value.agg #[.slice none 0 0, .bool false, .slice none 0 0, .slice none 0 0]).cells[· % (Value.agg #[.slice none 0 0, .bool false, .slice none 0 0, .slice none 0 0]).cells.size]!)) [(0, .agg #[x0, x1, x2, x3]), (1, .agg #[y0, y1, y2, y3]), (2, .agg #[z0, z1, z2, z3]), (3, .agg #[u0, u1, u2, u3])] = some #[x0, x1, x2, x3, y0, y1, y2, y3, z0, z1, z2, z3, u0, u1, u2, u3] := by kernel_rfl
/-- A literal of four expressions. -/
theorem build4L {P : Program} {ops : Array Oper} {rest : List Oper} {o : Oper} {a : Act} {Q : Exit → Act → World → Prop} {w : World} {t e : TypeId} {bytes : Nat} (ET : ElemT P t e (.agg #[.slice none 0 0, .bool false, .slice none 0 0, .slice none 0 0]) 4 bytes) (hg : o.guard = none) {x y z u : Operand} (ho : o.op = .buildSlice t 4 #[(0, x), (1, y), (2, z), (3, u)])
    {x0 x1 x2 x3 y0 y1 y2 y3 z0 z1 z2 z3 u0 u1 u2 u3 : Value} (hx : a.eval x = .agg #[x0, x1, x2, x3]) (hy : a.eval y = .agg #[y0, y1, y2, y3]) (hz' : a.eval z = .agg #[z0, z1, z2, z3]) (hu : a.eval u = .agg #[u0, u1, u2, u3])
    (h : wpList P ops Q rest (a.put o.dst (.slice (some ⟨w.heap.size, 0, none⟩) 4 4)) (w.alloc (.cells #[x0, x1, x2, x3, y0, y1, y2, y3, z0, z1, z2, z3, u0, u1, u2, u3] e))) : wpList P ops Q (o :: rest) a w := by
  obtain ⟨i, hi, hz, hsz, -⟩ := ET.inf
  refine wpList_buildSlice hg t e 4 _ ho _ i _ ET.und hi hz (by rw [hsz]; decide) (by rw [hsz]; decide) ?_ h
  rw [hsz]
  have hp : (#[(0, x), (1, y), (2, z), (3, u)].map fun (i, x) => (i, a.eval x)).toList = [(0, a.eval x), (1, a.eval y), (2, a.eval z), (3, a.eval u)] := by simp
  rw [hp, hx, hy, hz', hu]
  exact fill4 ..
theorem etE4 : ElemT Try.prog 86 63 (.agg #[.slice none 0 0, .bool false, .slice none 0 0, .slice none 0 0]) 4 80 := ElemT.mk' Try.underlying86 (by kernel_rfl) rfl (by decide)
set_option maxHeartbeats 100000000 in
set_option maxRecDepth 100000 in
set_option linter.unusedSimpArgs false in
theorem walk {w : World} {v0 v1 : Value} {l0 l1 : List (Int × NN)} {n0 n1 : NN} (hv0 : RdNE w v0 l0 n0) (hb0 : ∀ p ∈ l0, bN p.2 ≤ 1048576) (hn0 : bN n0 ≤ 1048576) (_hl0 : l0.length ≤ 1048576)
    (hv1 : RdNE w v1 l1 n1) (hb1 : ∀ p ∈ l1, bN p.2 ≤ 1048576) (hn1 : bN n1 ≤ 1048576) (_hl1 : l1.length ≤ 1048576) :
    Calls Try.prog 6 #[v0, v1] w (Gives w fun v' _ => v' = .bool true) := by
  refine via fun R hR => ?_
  unfold bN at hb0 hb1 hn0 hn1
  have ZA := Lib.hid (tL_sm hv0)
  have ZB := Lib.hid (tL_sm hv1)
  have HEA : Hid (∀ (w : World) (v : Value), RdNE w v l0 n0 → Calls Try.prog 31 #[v] w (Gives w fun v' w' => OwnX 0 w' v' (tL l0) (qN n0))) := fun w v h => expr8_sm h (fun t ht => by have := hb0 t ht; exact ⟨by omega, by omega⟩) ⟨by omega, by omega⟩
  have HEB : Hid (∀ (w : World) (v : Value), RdNE w v l1 n1 → Calls Try.prog 31 #[v] w (Gives w fun v' w' => OwnX 0 w' v' (tL l1) (qN n1))) := fun w v h => expr8_sm h (fun t ht => by have := hb1 t ht; exact ⟨by omega, by omega⟩) ⟨by omega, by omega⟩
  have HV0 := Lib.hid hv0
  have HV1 := Lib.hid hv1
  obtain ⟨sl0, t1, t2, rfl, hr0, -⟩ := hv0
  obtain ⟨aa, ka, rfl, -, -⟩ := hr0.shape
  obtain ⟨sl1, t4, t5, rfl, hr1, -⟩ := hv1
  obtain ⟨ab, kb, rfl, -, -⟩ := hr1.shape
  clear hr0 hr1 hb0 hb1 hn0 hn1
  obtain ⟨g0, hg0⟩ : ∃ g0, n0.1 = g0 := ⟨_, rfl⟩
  obtain ⟨g1, hg1⟩ : ∃ g1, n1.1 = g1 := ⟨_, rfl⟩
  obtain ⟨m0, hm0⟩ : ∃ m0, l0.length = m0 := ⟨_, rfl⟩
  obtain ⟨m1, hm1⟩ : ∃ m1, l1.length = m1 := ⟨_, rfl⟩
  rw [hg0, hm0] at HV0 ⊢
  rw [hg1, hm1] at HV1 ⊢
  clear hg0 hg1 hm0 hm1
  generalize tL l0 = la at *
  generalize tL l1 = lb at *
  generalize qN n0 = ca at *
  generalize qN n1 = cb at *
  have hla : la.length ≤ 12 := ZA.out.1
  have HADD : Hid (∀ w va vb B, B ≤ w.heap.size → RdX w va la ca → RdX w vb lb cb → Calls Try.prog 40 #[va, vb] w (Gives w fun v' w' => RsX 84 B w' v')) := fun w va vb B hB h1 h2 =>
    (ladd_any 8 8 h1 h2 ZA.out.2.1 ZB.out.2.1 ZA.out.2.2 ZB.out.2.2 (by have := ZA.out.1; have := ZB.out.1; omega) (by decide) (by decide)).mono fun _ _ ⟨v, e, b, l', _, _, _, hl, o⟩ => ⟨v, e, b, OwnEx.rs o hB (by have := ZA.out.1; have := ZB.out.1; omega)⟩
  have HCAN : Hid (∀ w va B, B ≤ w.heap.size → RdX w va la ca → Calls Try.prog 38 #[va] w (Gives w fun v' w' => RsX 84 B w' v')) := fun w va B hB h1 =>
    (canon_any 8 h1 ZA.out.2.1 (by have := ZA.out.1; omega) (by decide)).mono fun _ _ ⟨v, e, b, l', _, _, hl, o⟩ => ⟨v, e, b, OwnEx.rs o hB (by have := ZA.out.1; omega)⟩
  have Z3 : Hid (Sz 8 ((3 : Int) : Rat)) := (Sz.int 3 (by omega)).le (by decide)
  have HSCA : Hid (∀ w vr va B, B ≤ w.heap.size → OwnQ 163 0 w vr ((3 : Int) : Rat) → RdX w va la ca → Calls Try.prog 43 #[vr, va] w (Gives w fun v' w' => RsX 84 B w' v')) := fun w vr va B hB h0 h1 =>
    (lscale_any 8 8 8 h0 h1 Z3.out ZA.out.2.1 ZA.out.2.2 (by have := ZA.out.1; omega) (by decide) (by decide)).mono fun _ _ ⟨v, e, b, l', _, _, _, hl, o⟩ => ⟨v, e, b, OwnEx.rs o hB (by have := ZA.out.1; omega)⟩
  have HSUB : Hid (∀ w va vb B, B ≤ w.heap.size → RdX w va la ca → RdX w vb lb cb → Calls Try.prog 45 #[va, .int .i64 0, vb] w (Gives w fun v' w' => RsX 84 B w' v')) := fun w va vb B hB h1 h2 =>
    (lsubst_any (x := 0) 8 8 h1 h2 ZA.out.2.1 ZB.out.2.1 ZA.out.2.2 ZB.out.2.2 (by have := ZA.out.1; have := ZB.out.1; omega) (by
      have h1 := ZA.out.1
      have h2 := ZB.out.1
      have h3 : lb.length * (la.length * (8 + 1) + 1 + 8 + 1) ≤ 12 * 118 := Nat.mul_le_mul h2 (by omega)
      omega) (by decide)).mono fun _ _ ⟨v, e, b, l', _, _, hl, o⟩ => ⟨v, e, b, OwnEx.rs o hB (by have := ZA.out.1; have := ZB.out.1; omega)⟩
  have HI9 : Hid (∀ w, Calls Try.prog 44 #[.int .i64 9] w (Gives w fun v' w' => OwnQ 163 0 w' v' ((9 : Int) : Rat))) := fun w => (rint_any (by omega)).mono fun _ _ ⟨v, e, b, o⟩ => ⟨v, e, b, o.mono (Nat.zero_le _)⟩
  have HI3 : Hid (∀ w, Calls Try.prog 44 #[.int .i64 3] w (Gives w fun v' w' => OwnQ 163 0 w' v' ((3 : Int) : Rat))) := fun w => (rint_any (by omega)).mono fun _ _ ⟨v, e, b, o⟩ => ⟨v, e, b, o.mono (Nat.zero_le _)⟩
  generalize ((3 : Int) : Rat) = q3 at *
  generalize ((9 : Int) : Rat) = q9 at *
  obtain ⟨w1, hw1, b1, c1, c2, -, -, -⟩ := bx2 w [.slice aa m0 ka, .bool g0, t1, t2] [.slice ab m1 kb, .bool g1, t4, t5] 60 60
  have C1 := Lib.hid c1
  have C2 := Lib.hid c2
  have HW := Lib.hid hw1
  have SZ1 : Hid (w.heap.size + 1 < w1.heap.size) := World.block_lt_of_cell? w1 _ c2.c4.1
  clear hw1 c1 c2
  go_enter Try.func6, Try.ntmps6
  go_upto_region 1 with (fail)
  rw [← HW.out]
  clear HW
  obtain ⟨k0, k1, k2, k3⟩ := C1.out.c4
  go_wp2_with fail
  refine (HEA.out _ _ (HV0.out.ext b1)).mono ?_
  rintro e w2 ⟨_, rfl, b2, o2⟩
  obtain ⟨a, k, s, b, m, d, b', m', d', rfl, hlk, hkm, HRW, HRC⟩ := o2.rd.op
  clear o2 k0 k1 k2 k3
  obtain ⟨w3, hw3, b3, c3, -, -⟩ := bx1 w2 [.slice a la.length k, .bool s, .slice b m d, .slice b' m' d'] 63
  have HW := Lib.hid hw3
  have R3 : Hid (Rt w3 w2.heap.size 4 63) := by
    show Rt _ _ _ _
    rw [hw3]
    exact Rt.new w2 [.slice a la.length k, .bool s, .slice b m d, .slice b' m' d'] 63
  have C3 := Lib.hid c3
  clear hw3 c3
  go_upto_region 2 with (fail)
  rw [← HW.out]
  clear HW
  have h12 := Below.size b2
  obtain ⟨BX, hBX⟩ : ∃ BX, w2.heap.size = BX := ⟨_, rfl⟩
  rw [hBX] at C3 R3 h12 ⊢
  clear hBX
  have HBX : Hid (w1.heap.size ≤ BX) := h12
  have HQ3 := Lib.hid (HRC.out.ext b3)
  obtain ⟨Ea, hEa⟩ := row_cells (HRW.out.ext OwnTm.ext b3)
  have HE3 := Lib.hid hEa
  have b13 := Ext.trans b2 b3
  clear hEa HRW HRC h12
  obtain ⟨N3, hN3⟩ : ∃ N3, la.length + 3 = N3 := ⟨_, rfl⟩
  have HN3 := Lib.hid hN3
  have hN3le : N3 ≤ 15 := by omega
  have hW3 : IntKind.i64.wrap ((la.length : Int) + 3) = (N3 : Int) := by rw [IntKind.wrap_i64]; omega
  clear hN3
  have b4 := drew_ext w3
  have XE := b4
  refine wp_region_noPanic ?_
  refine wp_region_last_drew (st := 13) (S := fun w' => w'.cell? ⟨BX, 0, none⟩ = some (.slice a la.length k) ∧ w'.cell? ⟨BX, 1, none⟩ = some (.bool s) ∧ w'.cell? ⟨BX, 2, none⟩ = some (.slice b m d) ∧ w'.cell? ⟨BX, 3, none⟩ = some (.slice b' m' d')) (by kernel_rfl) ((C3.out.ext XE).c4) (fun hHeld => ?_)
  refine wpAnyL_take (i := 0) (v := ?_) rfl (by kernel_rfl) (by kernel_rfl) (by kernel_rfl) (by kernel_rfl) (fun _ _ _ h => h) (Or.inl ⟨by rfl, fun w0 hSw => ?_⟩) hHeld ?_
  rotate_left
  · (try dsimp only at hSw)
    go_simp
    try with_reducible rfl
  simp only [Act.put, List.getElem_toArray, List.getElem_cons_succ, List.getElem_cons_zero, List.setIfInBounds_toArray, List.set_cons_zero, List.set_cons_succ]
  refine wpAnyL_take (i := 1) (v := ?_) rfl (by kernel_rfl) (by kernel_rfl) (by kernel_rfl) (by kernel_rfl) (fun _ _ _ h => h) (Or.inl ⟨by rfl, fun w0 hSw => ?_⟩) hHeld ?_
  rotate_left
  · (try dsimp only at hSw)
    go_simp
    try with_reducible rfl
  simp only [Act.put, List.getElem_toArray, List.getElem_cons_succ, List.getElem_cons_zero, List.setIfInBounds_toArray, List.set_cons_zero, List.set_cons_succ]
  refine wpAnyL_take (i := 2) (v := ?_) rfl (by kernel_rfl) (by kernel_rfl) (by kernel_rfl) (by kernel_rfl) (fun _ _ _ h => h) (Or.inl ⟨by rfl, fun w0 hSw => ?_⟩) hHeld ?_
  rotate_left
  · (try dsimp only at hSw)
    go_simp
    try with_reducible rfl
  simp only [Act.put, List.getElem_toArray, List.getElem_cons_succ, List.getElem_cons_zero, List.setIfInBounds_toArray, List.set_cons_zero, List.set_cons_succ]
  refine wpAnyL_take (i := 3) (v := ?_) rfl (by kernel_rfl) (by kernel_rfl) (by kernel_rfl) (by kernel_rfl) (fun _ _ _ h => h) (Or.inl ⟨by rfl, fun w0 hSw => ?_⟩) hHeld ?_
  rotate_left
  · (try dsimp only at hSw)
    go_simp
    try with_reducible rfl
  simp only [Act.put, List.getElem_toArray, List.getElem_cons_succ, List.getElem_cons_zero, List.setIfInBounds_toArray, List.set_cons_zero, List.set_cons_succ]
  refine wpAnyL_take (i := 5) (v := ?_) rfl (by kernel_rfl) (by kernel_rfl) (by kernel_rfl) (by kernel_rfl) (fun _ _ _ h => h) (Or.inl ⟨by rfl, fun w0 hSw => ?_⟩) hHeld ?_
  rotate_left
  · (try dsimp only at hSw)
    go_simp
    try with_reducible rfl
  simp only [Act.put, List.getElem_toArray, List.getElem_cons_succ, List.getElem_cons_zero, List.setIfInBounds_toArray, List.set_cons_zero, List.set_cons_succ]
  refine wpAnyL_take (i := 6) (v := ?_) rfl (by kernel_rfl) (by kernel_rfl) (by kernel_rfl) (by kernel_rfl) (fun _ _ _ h => h) (Or.inl ⟨by rfl, fun w0 hSw => ?_⟩) hHeld ?_
  rotate_left
  · (try dsimp only at hSw)
    go_simp
    try with_reducible rfl
  simp only [Act.put, List.getElem_toArray, List.getElem_cons_succ, List.getElem_cons_zero, List.setIfInBounds_toArray, List.set_cons_zero, List.set_cons_succ]
  refine wpAnyL_ready (rs := [4]) (by kernel_rfl) (by simp) ?_
  refine AllReadyL.cons (o := _) rfl (fun K hK => ?_) AllReadyL.nil
  refine if_wantedL rfl ?_
  refine make_capK etTm _ _ (by rfl) .i64 .i64 N3 (by rfl) (by rfl) (by omega) (by unfold maxLen; omega) ?_
  intro wA oA bA
  have OA := Lib.hid oA
  clear oA
  have XE := Ext.trans XE bA
  refine hK.out _ _ ((C3.out.ext XE).c4) (fun hHeld => ?_)
  clear hK K
  try simp only [Act.put, List.getElem_toArray, List.getElem_cons_succ, List.getElem_cons_zero, List.setIfInBounds_toArray, List.set_cons_zero, List.set_cons_succ]
  refine wpAnyL_ready (rs := [7]) (by kernel_rfl) (by simp) ?_
  refine AllReadyL.cons (o := _) rfl (fun K hK => ?_) AllReadyL.nil
  refine if_wantedL rfl ?_
  refine append_rdK etTm _ _ (by rfl) w3.heap.size (by rfl) OA.out (by rfl) (HE3.out.1.ext XE) HE3.out.2.2 (by omega) (by unfold maxLen; omega) (Below.size XE) ?_
  intro v9 w9 o9 b9 g9
  have XE := Below.trans XE b9
  have HROW : Hid (OwnRow 4 (OwnTm 163) 84 w3.heap.size w9 v9 la) := ⟨Ea, by simpa using o9, HE3.out.2.1.mono fun _ _ h => OwnTm.ext h XE⟩
  obtain ⟨a9, k9, rfl, -, -⟩ := HROW.out.rd.shape
  clear o9
  refine hK.out _ _ ((C3.out.ext XE).c4) (fun hHeld => ?_)
  clear hK K
  try simp only [Act.put, List.getElem_toArray, List.getElem_cons_succ, List.getElem_cons_zero, List.setIfInBounds_toArray, List.set_cons_zero, List.set_cons_succ]
  refine wpAnyL_ready (rs := [8]) (by kernel_rfl) (by simp) ?_
  refine AllReadyL.cons (o := _) rfl (fun K hK => ?_) AllReadyL.nil
  go_simp
  go_at_call 44; refine (HI9.out _).mono ?_; rintro e w5 ⟨v5, rfl, b5, o5⟩; have O5 := Lib.hid o5; clear o5; (first | have XE := Ext.trans XE b5 | have XE := Ext.trans (Ext.trans XE (Ext.alloc _ _)) b5); obtain ⟨s5, e5, n5, g5, f5, m5, h5, rfl, P5⟩ := O5.out.op
  go_wp2_with fail
  refine hK.out _ _ ((C3.out.ext XE).c4) (fun hHeld => ?_)
  clear hK K
  try simp only [Act.put, List.getElem_toArray, List.getElem_cons_succ, List.getElem_cons_zero, List.setIfInBounds_toArray, List.set_cons_zero, List.set_cons_succ]
  refine wpAnyL_take (i := 9) (v := ?_) rfl (by kernel_rfl) (by kernel_rfl) (by kernel_rfl) (by kernel_rfl) (fun _ _ _ h => h) (Or.inl ⟨by rfl, fun w0 hSw => ?_⟩) hHeld ?_
  rotate_left
  · (try dsimp only at hSw)
    go_simp
    try with_reducible rfl
  simp only [Act.put, List.getElem_toArray, List.getElem_cons_succ, List.getElem_cons_zero, List.setIfInBounds_toArray, List.set_cons_zero, List.set_cons_succ]
  refine wpAnyL_ready (rs := [10]) (by kernel_rfl) (by simp) ?_
  refine AllReadyL.cons (o := _) rfl (fun K hK => ?_) AllReadyL.nil
  go_simp
  refine hK.out _ _ ((C3.out.ext (Ext.trans XE (Ext.alloc _ _))).c4) (fun hHeld => ?_)
  clear hK K
  try simp only [Act.put, List.getElem_toArray, List.getElem_cons_succ, List.getElem_cons_zero, List.setIfInBounds_toArray, List.set_cons_zero, List.set_cons_succ]
  refine wpAnyL_ready (rs := [11]) (by kernel_rfl) (by simp) ?_
  refine AllReadyL.cons (o := _) rfl (fun K hK => ?_) AllReadyL.nil
  refine if_wantedL rfl ?_
  refine append_row (y := ((99 : Int), q9)) etTm (kdT (e := 163) (by decide)) _ _ (by rfl) w3.heap.size (by rfl) _ (by rfl) (HROW.out.ext OwnTm.ext b5) rfl ⟨_, _, _, rfl, P5.out⟩ (Below.size XE) (by omega) (by unfold maxLen; omega) ?_
  intro v8 w8 o8 b8 g8
  have XE := Below.trans XE b8
  obtain ⟨lx, hlx⟩ : ∃ lx, la ++ [((99 : Int), q9)] = lx := ⟨_, rfl⟩
  rw [hlx] at o8
  have HLX := Lib.hid hlx
  clear hlx
  obtain ⟨a8, k8, rfl, hk8, hm8⟩ := o8.rd.shape
  have O8 := Lib.hid o8
  clear o8
  refine hK.out _ _ ((C3.out.ext XE).c4) (fun hHeld => ?_)
  clear hK K
  try simp only [Act.put, List.getElem_toArray, List.getElem_cons_succ, List.getElem_cons_zero, List.setIfInBounds_toArray, List.set_cons_zero, List.set_cons_succ]
  refine wpAnyL_take (i := 12) (v := ?_) rfl (by kernel_rfl) (by kernel_rfl) (by kernel_rfl) (by kernel_rfl) (fun _ _ _ h => h) (Or.inl ⟨by rfl, fun w0 hSw => ?_⟩) hHeld ?_
  rotate_left
  · (try dsimp only at hSw)
    go_simp
    try with_reducible rfl
  simp only [Act.put, List.getElem_toArray, List.getElem_cons_succ, List.getElem_cons_zero, List.setIfInBounds_toArray, List.set_cons_zero, List.set_cons_succ]
  obtain ⟨_, _, _, _, j0, j1, j2, j3, i0, i1, i2, i3⟩ := (R3.out.ext XE).c4
  refine wpAnyL_ready (rs := [13]) (by kernel_rfl) (by simp) ?_
  refine AllReadyL.last (o := _) rfl (fun K hK => ?_)
  go_simp
  refine hK.out _ _ ?_
  clear hK K
  try simp only [Act.put, List.getElem_toArray, List.getElem_cons_succ, List.getElem_cons_zero, List.setIfInBounds_toArray, List.set_cons_zero, List.set_cons_succ]
  refine wpAnyL_done (by kernel_rfl) ?_ _
  refine NoPanic.normal ?_
  have b38 : Ext w3 w8 := XE
  have HXL : Hid (lx.length = la.length + 1) := by show _ = _; rw [← HLX.out, List.length_append]; rfl
  have R8 := Lib.hid (R3.out.ext b38)
  have C8 := Lib.hid (C3.out.ext b38)
  have HQ8 := Lib.hid (HQ3.out.ext b38)
  clear OA HROW O5 P5 HE3 R3 C3 HQ3 hW3 HN3 hN3le hHeld
  obtain ⟨w9', hw9⟩ : ∃ W, W = w8.setCell ⟨BX, 0, none⟩ (.slice a8 lx.length k8) := ⟨_, rfl⟩
  have HW := Lib.hid hw9
  have C9 : Hid (Bx w9' BX [.slice a8 lx.length k8, .bool s, .slice b m d, .slice b' m' d']) := by rw [hw9]; exact C8.out.set0 R8.out (by decide) _
  have R9 : Hid (Rt w9' BX 4 63) := by rw [hw9]; exact R8.out.set0 _
  have O9 : Hid (OwnRow 4 (OwnTm 163) 84 w3.heap.size w9' (.slice a8 lx.length k8) lx) := by rw [hw9]; exact O8.out.putT R8.out (by decide) 0 [_] (fun v a h => h.putT R8.out (by decide) 0 [_])
  have HQ9 : Hid (OwnQ 163 0 w9' (.agg #[.bool s, .slice b m d, .slice b' m' d']) ca) := by rw [hw9]; exact HQ8.out.putT R8.out (by decide) 0 [_]
  have b19 : Ext w1 w9' := by rw [hw9]; exact putL_below HBX.out [_] 0 (Ext.trans b13 b38)
  clear hw9 C8 O8 HQ8
  go_upto_region 3 with (fail)
  rw [← HW.out]
  clear HW
  obtain ⟨bG, oG, rfl⟩ := O9.out.rd.some_at (i := 0) (by rw [HXL.out]; omega)
  have hW1 : IntKind.i64.wrap ((lx.length : Int) - 1) = (la.length : Int) := by rw [IntKind.wrap_i64]; have := HXL.out; omega
  have hs1 : (0 : Int) ≤ (la.length : Int) ∧ (la.length : Int) ≤ (k8 : Int) := ⟨by omega, by have := HXL.out; omega⟩
  obtain ⟨k0, k1, k2, k3⟩ := C9.out.c4
  obtain ⟨_, _, _, _, -, -, -, -, i0, i1, i2, i3⟩ := R9.out.c4
  obtain ⟨w10, hw10⟩ : ∃ W, W = w9'.setCell ⟨BX, 0, none⟩ (.slice (some ⟨bG, oG, none⟩) la.length k8) := ⟨_, rfl⟩
  have HW := Lib.hid hw10
  have C10 : Hid (Bx w10 BX [.slice (some ⟨bG, oG, none⟩) la.length k8, .bool s, .slice b m d, .slice b' m' d']) := by rw [hw10]; exact C9.out.set0 R9.out (by decide) _
  have O10 : Hid (RdRow 4 (OwnTm 163) w10 (.slice (some ⟨bG, oG, none⟩) lx.length k8) lx) := by rw [hw10]; exact (O9.out.putT R9.out (by decide) 0 [_] (fun v a h => h.putT R9.out (by decide) 0 [_])).rd
  have HQ10 : Hid (OwnQ 163 0 w10 (.agg #[.bool s, .slice b m d, .slice b' m' d']) ca) := by rw [hw10]; exact HQ9.out.putT R9.out (by decide) 0 [_]
  have b110 : Ext w1 w10 := by rw [hw10]; exact putL_below HBX.out [_] 0 b19
  clear hw10
  go_upto_region 4 with (fail)
  rw [← HW.out]
  clear HW k0 k1 k2 k3 i0 i1 i2 i3 C9 R8 R9 O9 HQ9 hW1
  have RR10 : Hid (RdRow 4 (OwnTm 163) w10 (.slice (some ⟨bG, oG, none⟩) la.length k8) la) := by
    have h := O10.out
    rw [← HLX.out] at h
    exact h.init
  have RX10 : Hid (RdX w10 (.agg #[.slice (some ⟨bG, oG, none⟩) la.length k8, .bool s, .slice b m d, .slice b' m' d']) la ca) := ⟨_, _, _, _, rfl, RR10.out, HQ10.out⟩
  have HRM : Hid (∃ y1 y2 y3, Box4 w10 bG (oG + la.length * 4) (.int .i64 99) y1 y2 y3) := by
    obtain ⟨sx, ax, lx', mx, ay, ly, my, hB4, -⟩ := O10.out.tm la.length (by rw [HXL.out]; omega)
    have hg : gt lx la.length = ((99 : Int), q9) := by
      rw [gt_lt (by rw [HXL.out]; omega)]
      have := HLX.out
      subst this
      simp
    rw [hg] at hB4
    exact ⟨_, _, _, hB4⟩
  have b010 := Ext.trans b1 b110
  have D1 := Lib.hid (C1.out.ext b110)
  have D2 := Lib.hid (C2.out.ext b110)
  have SZ10 : Hid (w.heap.size + 1 < w10.heap.size) := by have h1 := SZ1.out; have h2 := Below.size b110; show _ < _; omega
  clear C1 C2 HQ10 O10 SZ1
  obtain ⟨k0, k1, k2, k3⟩ := D1.out.c4
  go_wp2_with fail
  refine (HEA.out _ _ (HV0.out.ext b010)).mono ?_
  rintro e w11 ⟨_, rfl, b11, o11⟩
  obtain ⟨aw, kw, sw, bw, mw, dw, bw', mw', dw', rfl, hlw, hkw, HRW, -⟩ := o11.rd.op
  clear o11 k0 k1 k2 k3
  obtain ⟨w12, hw12, b12, c12, -, -⟩ := bx1 w11 [.slice aw la.length kw, .bool sw, .slice bw mw dw, .slice bw' mw' dw'] 63
  have HW := Lib.hid hw12
  have C12 := Lib.hid c12
  clear hw12 c12
  go_upto_region 5 with (fail)
  rw [← HW.out]
  clear HW
  obtain ⟨BW, hBW⟩ : ∃ BW, w11.heap.size = BW := ⟨_, rfl⟩
  rw [hBW] at C12 ⊢
  clear hBW
  have b1012 := Ext.trans b11 b12
  have b012 := Ext.trans b010 b1012
  have HWR := Lib.hid (HRW.out.ext OwnTm.ext b12)
  have RX := Lib.hid (RX10.out.ext b1012)
  have RR := Lib.hid (RR10.out.ext OwnTm.ext b1012)
  have HRM12 : Hid (∃ y1 y2 y3, Box4 w12 bG (oG + la.length * 4) (.int .i64 99) y1 y2 y3) := by
    obtain ⟨y1, y2, y3, h⟩ := HRM.out
    exact ⟨y1, y2, y3, h.ext b1012⟩
  have F2 := Lib.hid (D2.out.ext b1012)
  have CX := Lib.hid (C10.out.ext b1012)
  have SZ12 : Hid (w.heap.size + 1 < w12.heap.size) := by have h1 := SZ10.out; have h2 := Below.size b1012; show _ < _; omega
  have SZX : Hid (BX < w12.heap.size) := CX.out.lt
  clear HRW RX10 RR10 HRM D1 D2 C10 SZ10
  go_cut [7] (fun s7 wx => ∃ (B4 : Nat) (ar : Option Addr) (nr kr : Nat) (sr : Bool) (br : Option Addr) (mr dr : Nat) (br' : Option Addr) (mr' dr' : Nat), s7 = .pointer (some ⟨B4, 0, none⟩) ∧ Ext w12 wx ∧ Hid (Bx wx B4 [.slice ar nr kr, .bool sr, .slice br mr dr, .slice br' mr' dr']) ∧ nr ≤ 100 ∧ Hid (RowOk 84 w12.heap.size wx ar nr))
  case first =>
    as_aux_lemma =>
      refine wp_region_noPanic ?_
      refine wp_region_held_drew (S := fun w' => (w'.cell? ⟨BX, 0, none⟩ = some (.slice (some ⟨bG, oG, none⟩) la.length k8) ∧ w'.cell? ⟨BX, 1, none⟩ = some (.bool s) ∧ w'.cell? ⟨BX, 2, none⟩ = some (.slice b m d) ∧ w'.cell? ⟨BX, 3, none⟩ = some (.slice b' m' d')) ∧ (w'.cell? ⟨w.heap.size + 1, 0, none⟩ = some (.slice ab m1 kb) ∧ w'.cell? ⟨w.heap.size + 1, 1, none⟩ = some (.bool g1) ∧ w'.cell? ⟨w.heap.size + 1, 2, none⟩ = some (t4) ∧ w'.cell? ⟨w.heap.size + 1, 3, none⟩ = some (t5))) (by kernel_rfl) (⟨(CX.out.ext (drew_ext w12)).c4, (F2.out.ext (drew_ext w12)).c4⟩) (fun hHeld => ?_)
      refine wpAnyH_take (i := 0) (v := ?_) rfl (by kernel_rfl) (by kernel_rfl) (by kernel_rfl) (fun _ _ _ h => h) (Or.inl ⟨by rfl, fun w0 hSw => ?_⟩) hHeld ?_
      rotate_left
      · (try dsimp only at hSw)
        go_simp
        try with_reducible rfl
      simp only [Act.put, List.getElem_toArray, List.getElem_cons_succ, List.getElem_cons_zero, List.setIfInBounds_toArray, List.set_cons_zero, List.set_cons_succ]
      refine wpAnyH_take (i := 1) (v := ?_) rfl (by kernel_rfl) (by kernel_rfl) (by kernel_rfl) (fun _ _ _ h => h) (Or.inl ⟨by rfl, fun w0 hSw => ?_⟩) hHeld ?_
      rotate_left
      · (try dsimp only at hSw)
        go_simp
        try with_reducible rfl
      simp only [Act.put, List.getElem_toArray, List.getElem_cons_succ, List.getElem_cons_zero, List.setIfInBounds_toArray, List.set_cons_zero, List.set_cons_succ]
      refine anyH_cap fun O Q9 AA hO hQ hA => ?_
      obtain ⟨SS, hSS⟩ : ∃ SS : World → Prop, Hid (SS = fun w' => (w'.cell? ⟨BX, 0, none⟩ = some (.slice (some ⟨bG, oG, none⟩) la.length k8) ∧ w'.cell? ⟨BX, 1, none⟩ = some (.bool s) ∧ w'.cell? ⟨BX, 2, none⟩ = some (.slice b m d) ∧ w'.cell? ⟨BX, 3, none⟩ = some (.slice b' m' d')) ∧ (w'.cell? ⟨w.heap.size + 1, 0, none⟩ = some (.slice ab m1 kb) ∧ w'.cell? ⟨w.heap.size + 1, 1, none⟩ = some (.bool g1) ∧ w'.cell? ⟨w.heap.size + 1, 2, none⟩ = some (t4) ∧ w'.cell? ⟨w.heap.size + 1, 3, none⟩ = some (t5))) := ⟨_, rfl⟩
      have KP : Hid (∀ wv, Ext w12 wv → SS wv) := fun wv XE => by rw [hSS.out]; exact ⟨(CX.out.ext XE).c4, (F2.out.ext XE).c4⟩
      have L2_4 : ∀ (wv : World) (v2 v3 : Value) (B4 : Nat), Hid (Ext w12 wv) → Hid (OwnX 0 wv v2 lb cb) → Hid (RsX 84 w12.heap.size wv v3) → Hid (Rt wv B4 4 63) → Hid (w12.heap.size ≤ B4) → wpAnyH Try.prog .any O Q9 SS 1 #[true, true, true, true, true, false] (((AA.put (some 43) v2).put (some 44) v3).put (some 7) (.pointer (some ⟨B4, 0, none⟩))) wv := by
        intro wv v2 v3 B4 hX p2 p3 r4 s4
        have hO1 := hO.out
        have hQ1 := hQ.out
        have hA1 := hA.out
        subst hO1
        subst hQ1
        subst hA1
        have XE := hX.out
        have hS1 := hSS.out
        subst hS1
        have hHeld : (fun w' => (w'.cell? ⟨BX, 0, none⟩ = some (.slice (some ⟨bG, oG, none⟩) la.length k8) ∧ w'.cell? ⟨BX, 1, none⟩ = some (.bool s) ∧ w'.cell? ⟨BX, 2, none⟩ = some (.slice b m d) ∧ w'.cell? ⟨BX, 3, none⟩ = some (.slice b' m' d')) ∧ (w'.cell? ⟨w.heap.size + 1, 0, none⟩ = some (.slice ab m1 kb) ∧ w'.cell? ⟨w.heap.size + 1, 1, none⟩ = some (.bool g1) ∧ w'.cell? ⟨w.heap.size + 1, 2, none⟩ = some (t4) ∧ w'.cell? ⟨w.heap.size + 1, 3, none⟩ = some (t5))) wv := ⟨(CX.out.ext XE).c4, (F2.out.ext XE).c4⟩
        try simp only [Act.put, List.getElem_toArray, List.getElem_cons_succ, List.getElem_cons_zero, List.setIfInBounds_toArray, List.set_cons_zero, List.set_cons_succ]
        have k0_4 : BX ≠ B4 := by have h1 := s4.out; have hz0 := SZ12.out; have hz1 := SZX.out; omega
        have k1_4 : w.heap.size + 1 ≠ B4 := by have h1 := s4.out; have hz0 := SZ12.out; have hz1 := SZX.out; omega
        obtain ⟨pa, pn, pk, ps, pb, pm, pd, pb', pm', pd', rfl, pl, pr⟩ := p3.out
        obtain ⟨_, _, _, _, i4_0, i4_1, i4_2, i4_3, f4_0, f4_1, f4_2, f4_3⟩ := r4.out.c4
        refine wpAnyH_ready (rs := [5]) (by kernel_rfl) (by simp) ?_
        refine AllReadyH.cons (o := _) rfl (fun K hK => ?_) AllReadyH.nil
        go_simp
        refine hK.out _ _ (⟨(((((CX.out.ext XE).set1 k0_4 _ _).set1 k0_4 _ _).set1 k0_4 _ _).set1 k0_4 _ _).c4, (((((F2.out.ext XE).set1 k1_4 _ _).set1 k1_4 _ _).set1 k1_4 _ _).set1 k1_4 _ _).c4⟩) (fun hHeld => ?_)
        clear hK K
        try simp only [Act.put, List.getElem_toArray, List.getElem_cons_succ, List.getElem_cons_zero, List.setIfInBounds_toArray, List.set_cons_zero, List.set_cons_succ]
        refine wpAnyH_done (by kernel_rfl) ?_ _
        refine NoPanic.normal ?_
        go_wp2_with fail
        go_meet
        obtain ⟨W, hW, hM1, hM2, hM3⟩ := meet4r (Q := fun w => RowOk 84 w12.heap.size w pa pn) r4.out hX.out s4.out (fun w b cs hr h => h.putT hr (by decide) 0 cs) pr
        rw [← hW]
        exact ⟨B4, pa, pn, pk, _, _, _, _, _, _, _, rfl, hM1, hM2, pl, hM3⟩
      have L1_4 : ∀ (wv : World) (v2 : Value) (B4 : Nat), Hid (Ext w12 wv) → Hid (OwnX 0 wv v2 lb cb) → Hid (Rt wv B4 4 63) → Hid (w12.heap.size ≤ B4) → wpAnyH Try.prog .any O Q9 SS 2 #[true, true, true, false, true, false] ((AA.put (some 43) v2).put (some 7) (.pointer (some ⟨B4, 0, none⟩))) wv := by
        intro wv v2 B4 hX p2 r4 s4
        have hO1 := hO.out
        have hQ1 := hQ.out
        have hA1 := hA.out
        subst hO1
        subst hQ1
        subst hA1
        have XE := hX.out
        try simp only [Act.put, List.getElem_toArray, List.getElem_cons_succ, List.getElem_cons_zero, List.setIfInBounds_toArray, List.set_cons_zero, List.set_cons_succ]
        refine wpAnyH_ready (rs := [3]) (by kernel_rfl) (by simp) ?_
        refine AllReadyH.cons (o := _) rfl (fun K hK => ?_) AllReadyH.nil
        go_simp
        go_at_call 40
        refine (HADD.out _ _ _ w12.heap.size (Below.size XE) (RX.out.ext XE) p2.out.rd).mono ?_
        rintro e wn ⟨vn, rfl, bn, on⟩
        go_wp2_with fail
        refine hK.out _ _ (KP.out _ (Ext.trans XE bn)) (fun _ => ?_)
        clear hK K
        try simp only [Act.put, List.getElem_toArray, List.getElem_cons_succ, List.getElem_cons_zero, List.setIfInBounds_toArray, List.set_cons_zero, List.set_cons_succ]
        exact wpAnyH_at (L2_4 wn v2 vn B4 (Ext.trans XE bn) (p2.out.ext bn) (on) (r4.out.ext bn) s4) (by kernel_rfl) (by kernel_rfl) (by kernel_rfl)
      have L2_ : ∀ (wv : World) (v2 v3 : Value), Hid (Ext w12 wv) → Hid (OwnX 0 wv v2 lb cb) → Hid (RsX 84 w12.heap.size wv v3) → wpAnyH Try.prog .any O Q9 SS 2 #[true, true, true, true, false, false] ((AA.put (some 43) v2).put (some 44) v3) wv := by
        intro wv v2 v3 hX p2 p3
        have hO1 := hO.out
        have hQ1 := hQ.out
        have hA1 := hA.out
        subst hO1
        subst hQ1
        subst hA1
        have XE := hX.out
        try simp only [Act.put, List.getElem_toArray, List.getElem_cons_succ, List.getElem_cons_zero, List.setIfInBounds_toArray, List.set_cons_zero, List.set_cons_succ]
        refine wpAnyH_ready (rs := [4]) (by kernel_rfl) (by simp) ?_
        refine AllReadyH.cons (o := _) rfl (fun K hK => ?_) AllReadyH.nil
        go_simp
        refine hK.out _ _ (KP.out _ (Ext.trans XE (Ext.alloc _ _))) (fun _ => ?_)
        clear hK K
        try simp only [Act.put, List.getElem_toArray, List.getElem_cons_succ, List.getElem_cons_zero, List.setIfInBounds_toArray, List.set_cons_zero, List.set_cons_succ]
        exact wpAnyH_at (L2_4 _ v2 v3 wv.heap.size (Ext.trans XE (Ext.alloc wv (.cells [.slice none 0 0, .bool false, .slice none 0 0, .slice none 0 0].toArray 63))) (p2.out.ext (Ext.alloc wv (.cells [.slice none 0 0, .bool false, .slice none 0 0, .slice none 0 0].toArray 63))) (p3.out.ext (Ext.alloc wv (.cells [.slice none 0 0, .bool false, .slice none 0 0, .slice none 0 0].toArray 63))) (Rt.new wv [.slice none 0 0, .bool false, .slice none 0 0, .slice none 0 0] 63) (Below.size XE)) (by kernel_rfl) (by kernel_rfl) (by kernel_rfl)
      have L0_4 : ∀ (wv : World) (B4 : Nat), Hid (Ext w12 wv) → Hid (Rt wv B4 4 63) → Hid (w12.heap.size ≤ B4) → wpAnyH Try.prog .any O Q9 SS 3 #[true, true, false, false, true, false] (AA.put (some 7) (.pointer (some ⟨B4, 0, none⟩))) wv := by
        intro wv B4 hX r4 s4
        have hO1 := hO.out
        have hQ1 := hQ.out
        have hA1 := hA.out
        subst hO1
        subst hQ1
        subst hA1
        have XE := hX.out
        try simp only [Act.put, List.getElem_toArray, List.getElem_cons_succ, List.getElem_cons_zero, List.setIfInBounds_toArray, List.set_cons_zero, List.set_cons_succ]
        refine wpAnyH_ready (rs := [2]) (by kernel_rfl) (by simp) ?_
        refine AllReadyH.cons (o := _) rfl (fun K hK => ?_) AllReadyH.nil
        go_simp
        go_at_call 31
        refine (HEB.out _ _ (HV1.out.ext (Ext.trans b012 XE))).mono ?_
        rintro e wn ⟨vn, rfl, bn, on⟩
        go_wp2_with fail
        refine hK.out _ _ (KP.out _ (Ext.trans XE bn)) (fun _ => ?_)
        clear hK K
        try simp only [Act.put, List.getElem_toArray, List.getElem_cons_succ, List.getElem_cons_zero, List.setIfInBounds_toArray, List.set_cons_zero, List.set_cons_succ]
        exact wpAnyH_at (L1_4 wn vn B4 (Ext.trans XE bn) (on) (r4.out.ext bn) s4) (by kernel_rfl) (by kernel_rfl) (by kernel_rfl)
      have L1_ : ∀ (wv : World) (v2 : Value), Hid (Ext w12 wv) → Hid (OwnX 0 wv v2 lb cb) → wpAnyH Try.prog .any O Q9 SS 3 #[true, true, true, false, false, false] (AA.put (some 43) v2) wv := by
        intro wv v2 hX p2
        have hO1 := hO.out
        have hQ1 := hQ.out
        have hA1 := hA.out
        subst hO1
        subst hQ1
        subst hA1
        have XE := hX.out
        try simp only [Act.put, List.getElem_toArray, List.getElem_cons_succ, List.getElem_cons_zero, List.setIfInBounds_toArray, List.set_cons_zero, List.set_cons_succ]
        refine wpAnyH_ready (rs := [3, 4]) (by kernel_rfl) (by simp) ?_
        refine AllReadyH.cons (o := _) rfl (fun K hK => ?_) (AllReadyH.cons (o := _) rfl (fun K hK => ?_) AllReadyH.nil)
        · skip
          go_simp
          go_at_call 40
          refine (HADD.out _ _ _ w12.heap.size (Below.size XE) (RX.out.ext XE) p2.out.rd).mono ?_
          rintro e wn ⟨vn, rfl, bn, on⟩
          go_wp2_with fail
          refine hK.out _ _ (KP.out _ (Ext.trans XE bn)) (fun _ => ?_)
          clear hK K
          try simp only [Act.put, List.getElem_toArray, List.getElem_cons_succ, List.getElem_cons_zero, List.setIfInBounds_toArray, List.set_cons_zero, List.set_cons_succ]
          exact wpAnyH_at (L2_ wn v2 vn (Ext.trans XE bn) (p2.out.ext bn) (on)) (by kernel_rfl) (by kernel_rfl) (by kernel_rfl)
        · skip
          go_simp
          refine hK.out _ _ (KP.out _ (Ext.trans XE (Ext.alloc _ _))) (fun _ => ?_)
          clear hK K
          try simp only [Act.put, List.getElem_toArray, List.getElem_cons_succ, List.getElem_cons_zero, List.setIfInBounds_toArray, List.set_cons_zero, List.set_cons_succ]
          exact wpAnyH_at (L1_4 _ v2 wv.heap.size (Ext.trans XE (Ext.alloc wv (.cells [.slice none 0 0, .bool false, .slice none 0 0, .slice none 0 0].toArray 63))) (p2.out.ext (Ext.alloc wv (.cells [.slice none 0 0, .bool false, .slice none 0 0, .slice none 0 0].toArray 63))) (Rt.new wv [.slice none 0 0, .bool false, .slice none 0 0, .slice none 0 0] 63) (Below.size XE)) (by kernel_rfl) (by kernel_rfl) (by kernel_rfl)
      have L0_ : ∀ (wv : World), Hid (Ext w12 wv) → wpAnyH Try.prog .any O Q9 SS 4 #[true, true, false, false, false, false] AA wv := by
        intro wv hX
        have hO1 := hO.out
        have hQ1 := hQ.out
        have hA1 := hA.out
        subst hO1
        subst hQ1
        subst hA1
        have XE := hX.out
        try simp only [Act.put, List.getElem_toArray, List.getElem_cons_succ, List.getElem_cons_zero, List.setIfInBounds_toArray, List.set_cons_zero, List.set_cons_succ]
        refine wpAnyH_ready (rs := [2, 4]) (by kernel_rfl) (by simp) ?_
        refine AllReadyH.cons (o := _) rfl (fun K hK => ?_) (AllReadyH.cons (o := _) rfl (fun K hK => ?_) AllReadyH.nil)
        · skip
          go_simp
          go_at_call 31
          refine (HEB.out _ _ (HV1.out.ext (Ext.trans b012 XE))).mono ?_
          rintro e wn ⟨vn, rfl, bn, on⟩
          go_wp2_with fail
          refine hK.out _ _ (KP.out _ (Ext.trans XE bn)) (fun _ => ?_)
          clear hK K
          try simp only [Act.put, List.getElem_toArray, List.getElem_cons_succ, List.getElem_cons_zero, List.setIfInBounds_toArray, List.set_cons_zero, List.set_cons_succ]
          exact wpAnyH_at (L1_ wn vn (Ext.trans XE bn) (on)) (by kernel_rfl) (by kernel_rfl) (by kernel_rfl)
        · skip
          go_simp
          refine hK.out _ _ (KP.out _ (Ext.trans XE (Ext.alloc _ _))) (fun _ => ?_)
          clear hK K
          try simp only [Act.put, List.getElem_toArray, List.getElem_cons_succ, List.getElem_cons_zero, List.setIfInBounds_toArray, List.set_cons_zero, List.set_cons_succ]
          exact wpAnyH_at (L0_4 _ wv.heap.size (Ext.trans XE (Ext.alloc wv (.cells [.slice none 0 0, .bool false, .slice none 0 0, .slice none 0 0].toArray 63))) (Rt.new wv [.slice none 0 0, .bool false, .slice none 0 0, .slice none 0 0] 63) (Below.size XE)) (by kernel_rfl) (by kernel_rfl) (by kernel_rfl)
      have hO1 := hO.out
      have hQ1 := hQ.out
      have hA1 := hA.out
      subst hO1
      subst hQ1
      subst hA1
      have hS1 := hSS.out
      subst hS1
      exact wpAnyH_at (L0_ w12.drew (drew_ext w12)) (by kernel_rfl) (by kernel_rfl) (by kernel_rfl)
  case rest =>
    as_aux_lemma =>
      obtain ⟨BR7, ar7, nr7, kr7, sr7, br7, mr7, dr7, er7, or7, fr7, rfl, b13, CR7, lr7, OR7⟩ := hcut
      generalize wc = w13 at *
      obtain ⟨k0, k1, k2, k3⟩ := (CX.out.ext b13).c4
      go_wp2_with fail
      refine (HCAN.out _ _ w12.heap.size (Below.size b13) (RX.out.ext b13)).mono ?_
      rintro e w14 ⟨_, rfl, b14, o14⟩
      obtain ⟨a8', n8', k8'_, s8', b8', m8', d8', b9', m9', d9', rfl, l8', O14⟩ := o14
      clear k0 k1 k2 k3
      obtain ⟨w15, hw15, b15, c15, -, -⟩ := bx1 w14 [.slice a8' n8' k8'_, .bool s8', .slice b8' m8' d8', .slice b9' m9' d9'] 63
      have HW := Lib.hid hw15
      have C15 := Lib.hid c15
      have OR8 := Lib.hid (O14.ext b15)
      clear hw15 c15 O14
      go_upto_region 7 with (fail)
      rw [← HW.out]
      clear HW
      obtain ⟨BR8, hBR8⟩ : ∃ BR8, w14.heap.size = BR8 := ⟨_, rfl⟩
      rw [hBR8] at C15 ⊢
      clear hBR8
      have b1315 := Ext.trans b14 b15
      have b1215 := Ext.trans b13 b1315
      have HSC := Lib.hid (fun w vr x h => HSCA.out w vr _ w12.heap.size (Below.size (Ext.trans b1215 x)) h (RX.out.ext (Ext.trans b1215 x)))
      have CX15 := Lib.hid (CX.out.ext b1215)
      have SZX15 : Hid (BX < w15.heap.size) := CX15.out.lt
      go_cut [9] (fun s7 wx => ∃ (B4 : Nat) (ar : Option Addr) (nr kr : Nat) (sr : Bool) (br : Option Addr) (mr dr : Nat) (br' : Option Addr) (mr' dr' : Nat), s7 = .pointer (some ⟨B4, 0, none⟩) ∧ Ext w15 wx ∧ Hid (Bx wx B4 [.slice ar nr kr, .bool sr, .slice br mr dr, .slice br' mr' dr']) ∧ nr ≤ 100 ∧ Hid (RowOk 84 w12.heap.size wx ar nr))
      case first =>
        as_aux_lemma =>
          refine wp_region_noPanic ?_
          refine wp_region_held_drew (S := fun w' => w'.cell? ⟨BX, 0, none⟩ = some (.slice (some ⟨bG, oG, none⟩) la.length k8) ∧ w'.cell? ⟨BX, 1, none⟩ = some (.bool s) ∧ w'.cell? ⟨BX, 2, none⟩ = some (.slice b m d) ∧ w'.cell? ⟨BX, 3, none⟩ = some (.slice b' m' d')) (by kernel_rfl) ((CX15.out.ext (drew_ext w15)).c4) (fun hHeld => ?_)
          refine wpAnyH_take (i := 1) (v := ?_) rfl (by kernel_rfl) (by kernel_rfl) (by kernel_rfl) (fun _ _ _ h => h) (Or.inl ⟨by rfl, fun w0 hSw => ?_⟩) hHeld ?_
          rotate_left
          · (try dsimp only at hSw)
            go_simp
            try with_reducible rfl
          simp only [Act.put, List.getElem_toArray, List.getElem_cons_succ, List.getElem_cons_zero, List.setIfInBounds_toArray, List.set_cons_zero, List.set_cons_succ]
          refine anyH_cap fun O Q9 AA hO hQ hA => ?_
          obtain ⟨SS, hSS⟩ : ∃ SS : World → Prop, Hid (SS = fun w' => w'.cell? ⟨BX, 0, none⟩ = some (.slice (some ⟨bG, oG, none⟩) la.length k8) ∧ w'.cell? ⟨BX, 1, none⟩ = some (.bool s) ∧ w'.cell? ⟨BX, 2, none⟩ = some (.slice b m d) ∧ w'.cell? ⟨BX, 3, none⟩ = some (.slice b' m' d')) := ⟨_, rfl⟩
          have KP : Hid (∀ wv, Ext w15 wv → SS wv) := fun wv XE => by rw [hSS.out]; exact (CX15.out.ext XE).c4
          have L2_3 : ∀ (wv : World) (v0 v2 : Value) (B3 : Nat), Hid (Ext w15 wv) → Hid (OwnQ 163 0 wv v0 q3) → Hid (RsX 84 w12.heap.size wv v2) → Hid (Rt wv B3 4 63) → Hid (w15.heap.size ≤ B3) → wpAnyH Try.prog .any O Q9 SS 1 #[true, true, true, true, false] (((AA.put (some 47) v0).put (some 49) v2).put (some 9) (.pointer (some ⟨B3, 0, none⟩))) wv := by
            intro wv v0 v2 B3 hX p0 p2 r3 s3
            have hO1 := hO.out
            have hQ1 := hQ.out
            have hA1 := hA.out
            subst hO1
            subst hQ1
            subst hA1
            have XE := hX.out
            have hS1 := hSS.out
            subst hS1
            have hHeld : (fun w' => w'.cell? ⟨BX, 0, none⟩ = some (.slice (some ⟨bG, oG, none⟩) la.length k8) ∧ w'.cell? ⟨BX, 1, none⟩ = some (.bool s) ∧ w'.cell? ⟨BX, 2, none⟩ = some (.slice b m d) ∧ w'.cell? ⟨BX, 3, none⟩ = some (.slice b' m' d')) wv := (CX15.out.ext XE).c4
            try simp only [Act.put, List.getElem_toArray, List.getElem_cons_succ, List.getElem_cons_zero, List.setIfInBounds_toArray, List.set_cons_zero, List.set_cons_succ]
            have k0_3 : BX ≠ B3 := by have h1 := s3.out; have hz0 := SZX15.out; omega
            obtain ⟨pa, pn, pk, ps, pb, pm, pd, pb', pm', pd', rfl, pl, pr⟩ := p2.out
            obtain ⟨_, _, _, _, i3_0, i3_1, i3_2, i3_3, f3_0, f3_1, f3_2, f3_3⟩ := r3.out.c4
            refine wpAnyH_ready (rs := [4]) (by kernel_rfl) (by simp) ?_
            refine AllReadyH.cons (o := _) rfl (fun K hK => ?_) AllReadyH.nil
            go_simp
            refine hK.out _ _ ((((((CX15.out.ext XE).set1 k0_3 _ _).set1 k0_3 _ _).set1 k0_3 _ _).set1 k0_3 _ _).c4) (fun hHeld => ?_)
            clear hK K
            try simp only [Act.put, List.getElem_toArray, List.getElem_cons_succ, List.getElem_cons_zero, List.setIfInBounds_toArray, List.set_cons_zero, List.set_cons_succ]
            refine wpAnyH_done (by kernel_rfl) ?_ _
            refine NoPanic.normal ?_
            go_wp2_with fail
            go_meet
            obtain ⟨W, hW, hM1, hM2, hM3⟩ := meet4r (Q := fun w => RowOk 84 w12.heap.size w pa pn) r3.out hX.out s3.out (fun w b cs hr h => h.putT hr (by decide) 0 cs) pr
            rw [← hW]
            exact ⟨B3, pa, pn, pk, _, _, _, _, _, _, _, rfl, hM1, hM2, pl, hM3⟩
          have L1_3 : ∀ (wv : World) (v0 : Value) (B3 : Nat), Hid (Ext w15 wv) → Hid (OwnQ 163 0 wv v0 q3) → Hid (Rt wv B3 4 63) → Hid (w15.heap.size ≤ B3) → wpAnyH Try.prog .any O Q9 SS 2 #[true, true, false, true, false] ((AA.put (some 47) v0).put (some 9) (.pointer (some ⟨B3, 0, none⟩))) wv := by
            intro wv v0 B3 hX p0 r3 s3
            have hO1 := hO.out
            have hQ1 := hQ.out
            have hA1 := hA.out
            subst hO1
            subst hQ1
            subst hA1
            have XE := hX.out
            try simp only [Act.put, List.getElem_toArray, List.getElem_cons_succ, List.getElem_cons_zero, List.setIfInBounds_toArray, List.set_cons_zero, List.set_cons_succ]
            refine wpAnyH_ready (rs := [2]) (by kernel_rfl) (by simp) ?_
            refine AllReadyH.cons (o := _) rfl (fun K hK => ?_) AllReadyH.nil
            go_simp
            go_at_call 43
            refine (HSC.out _ _ XE p0.out).mono ?_
            rintro e wn ⟨vn, rfl, bn, on⟩
            go_wp2_with fail
            refine hK.out _ _ (KP.out _ (Ext.trans XE bn)) (fun _ => ?_)
            clear hK K
            try simp only [Act.put, List.getElem_toArray, List.getElem_cons_succ, List.getElem_cons_zero, List.setIfInBounds_toArray, List.set_cons_zero, List.set_cons_succ]
            exact wpAnyH_at (L2_3 wn v0 vn B3 (Ext.trans XE bn) (p0.out.ext bn) (on) (r3.out.ext bn) s3) (by kernel_rfl) (by kernel_rfl) (by kernel_rfl)
          have L2_ : ∀ (wv : World) (v0 v2 : Value), Hid (Ext w15 wv) → Hid (OwnQ 163 0 wv v0 q3) → Hid (RsX 84 w12.heap.size wv v2) → wpAnyH Try.prog .any O Q9 SS 2 #[true, true, true, false, false] ((AA.put (some 47) v0).put (some 49) v2) wv := by
            intro wv v0 v2 hX p0 p2
            have hO1 := hO.out
            have hQ1 := hQ.out
            have hA1 := hA.out
            subst hO1
            subst hQ1
            subst hA1
            have XE := hX.out
            try simp only [Act.put, List.getElem_toArray, List.getElem_cons_succ, List.getElem_cons_zero, List.setIfInBounds_toArray, List.set_cons_zero, List.set_cons_succ]
            refine wpAnyH_ready (rs := [3]) (by kernel_rfl) (by simp) ?_
            refine AllReadyH.cons (o := _) rfl (fun K hK => ?_) AllReadyH.nil
            go_simp
            refine hK.out _ _ (KP.out _ (Ext.trans XE (Ext.alloc _ _))) (fun _ => ?_)
            clear hK K
            try simp only [Act.put, List.getElem_toArray, List.getElem_cons_succ, List.getElem_cons_zero, List.setIfInBounds_toArray, List.set_cons_zero, List.set_cons_succ]
            exact wpAnyH_at (L2_3 _ v0 v2 wv.heap.size (Ext.trans XE (Ext.alloc wv (.cells [.slice none 0 0, .bool false, .slice none 0 0, .slice none 0 0].toArray 63))) (p0.out.ext (Ext.alloc wv (.cells [.slice none 0 0, .bool false, .slice none 0 0, .slice none 0 0].toArray 63))) (p2.out.ext (Ext.alloc wv (.cells [.slice none 0 0, .bool false, .slice none 0 0, .slice none 0 0].toArray 63))) (Rt.new wv [.slice none 0 0, .bool false, .slice none 0 0, .slice none 0 0] 63) (Below.size XE)) (by kernel_rfl) (by kernel_rfl) (by kernel_rfl)
          have L0_3 : ∀ (wv : World) (B3 : Nat), Hid (Ext w15 wv) → Hid (Rt wv B3 4 63) → Hid (w15.heap.size ≤ B3) → wpAnyH Try.prog .any O Q9 SS 3 #[false, true, false, true, false] (AA.put (some 9) (.pointer (some ⟨B3, 0, none⟩))) wv := by
            intro wv B3 hX r3 s3
            have hO1 := hO.out
            have hQ1 := hQ.out
            have hA1 := hA.out
            subst hO1
            subst hQ1
            subst hA1
            have XE := hX.out
            try simp only [Act.put, List.getElem_toArray, List.getElem_cons_succ, List.getElem_cons_zero, List.setIfInBounds_toArray, List.set_cons_zero, List.set_cons_succ]
            refine wpAnyH_ready (rs := [0]) (by kernel_rfl) (by simp) ?_
            refine AllReadyH.cons (o := _) rfl (fun K hK => ?_) AllReadyH.nil
            go_simp
            go_at_call 44
            refine (HI3.out _).mono ?_
            rintro e wn ⟨vn, rfl, bn, on⟩
            go_wp2_with fail
            refine hK.out _ _ (KP.out _ (Ext.trans XE bn)) (fun _ => ?_)
            clear hK K
            try simp only [Act.put, List.getElem_toArray, List.getElem_cons_succ, List.getElem_cons_zero, List.setIfInBounds_toArray, List.set_cons_zero, List.set_cons_succ]
            exact wpAnyH_at (L1_3 wn vn B3 (Ext.trans XE bn) (on) (r3.out.ext bn) s3) (by kernel_rfl) (by kernel_rfl) (by kernel_rfl)
          have L1_ : ∀ (wv : World) (v0 : Value), Hid (Ext w15 wv) → Hid (OwnQ 163 0 wv v0 q3) → wpAnyH Try.prog .any O Q9 SS 3 #[true, true, false, false, false] (AA.put (some 47) v0) wv := by
            intro wv v0 hX p0
            have hO1 := hO.out
            have hQ1 := hQ.out
            have hA1 := hA.out
            subst hO1
            subst hQ1
            subst hA1
            have XE := hX.out
            try simp only [Act.put, List.getElem_toArray, List.getElem_cons_succ, List.getElem_cons_zero, List.setIfInBounds_toArray, List.set_cons_zero, List.set_cons_succ]
            refine wpAnyH_ready (rs := [2, 3]) (by kernel_rfl) (by simp) ?_
            refine AllReadyH.cons (o := _) rfl (fun K hK => ?_) (AllReadyH.cons (o := _) rfl (fun K hK => ?_) AllReadyH.nil)
            · skip
              go_simp
              go_at_call 43
              refine (HSC.out _ _ XE p0.out).mono ?_
              rintro e wn ⟨vn, rfl, bn, on⟩
              go_wp2_with fail
              refine hK.out _ _ (KP.out _ (Ext.trans XE bn)) (fun _ => ?_)
              clear hK K
              try simp only [Act.put, List.getElem_toArray, List.getElem_cons_succ, List.getElem_cons_zero, List.setIfInBounds_toArray, List.set_cons_zero, List.set_cons_succ]
              exact wpAnyH_at (L2_ wn v0 vn (Ext.trans XE bn) (p0.out.ext bn) (on)) (by kernel_rfl) (by kernel_rfl) (by kernel_rfl)
            · skip
              go_simp
              refine hK.out _ _ (KP.out _ (Ext.trans XE (Ext.alloc _ _))) (fun _ => ?_)
              clear hK K
              try simp only [Act.put, List.getElem_toArray, List.getElem_cons_succ, List.getElem_cons_zero, List.setIfInBounds_toArray, List.set_cons_zero, List.set_cons_succ]
              exact wpAnyH_at (L1_3 _ v0 wv.heap.size (Ext.trans XE (Ext.alloc wv (.cells [.slice none 0 0, .bool false, .slice none 0 0, .slice none 0 0].toArray 63))) (p0.out.ext (Ext.alloc wv (.cells [.slice none 0 0, .bool false, .slice none 0 0, .slice none 0 0].toArray 63))) (Rt.new wv [.slice none 0 0, .bool false, .slice none 0 0, .slice none 0 0] 63) (Below.size XE)) (by kernel_rfl) (by kernel_rfl) (by kernel_rfl)
          have L0_ : ∀ (wv : World), Hid (Ext w15 wv) → wpAnyH Try.prog .any O Q9 SS 4 #[false, true, false, false, false] AA wv := by
            intro wv hX
            have hO1 := hO.out
            have hQ1 := hQ.out
            have hA1 := hA.out
            subst hO1
            subst hQ1
            subst hA1
            have XE := hX.out
            try simp only [Act.put, List.getElem_toArray, List.getElem_cons_succ, List.getElem_cons_zero, List.setIfInBounds_toArray, List.set_cons_zero, List.set_cons_succ]
            refine wpAnyH_ready (rs := [0, 3]) (by kernel_rfl) (by simp) ?_
            refine AllReadyH.cons (o := _) rfl (fun K hK => ?_) (AllReadyH.cons (o := _) rfl (fun K hK => ?_) AllReadyH.nil)
            · skip
              go_simp
              go_at_call 44
              refine (HI3.out _).mono ?_
              rintro e wn ⟨vn, rfl, bn, on⟩
              go_wp2_with fail
              refine hK.out _ _ (KP.out _ (Ext.trans XE bn)) (fun _ => ?_)
              clear hK K
              try simp only [Act.put, List.getElem_toArray, List.getElem_cons_succ, List.getElem_cons_zero, List.setIfInBounds_toArray, List.set_cons_zero, List.set_cons_succ]
              exact wpAnyH_at (L1_ wn vn (Ext.trans XE bn) (on)) (by kernel_rfl) (by kernel_rfl) (by kernel_rfl)
            · skip
              go_simp
              refine hK.out _ _ (KP.out _ (Ext.trans XE (Ext.alloc _ _))) (fun _ => ?_)
              clear hK K
              try simp only [Act.put, List.getElem_toArray, List.getElem_cons_succ, List.getElem_cons_zero, List.setIfInBounds_toArray, List.set_cons_zero, List.set_cons_succ]
              exact wpAnyH_at (L0_3 _ wv.heap.size (Ext.trans XE (Ext.alloc wv (.cells [.slice none 0 0, .bool false, .slice none 0 0, .slice none 0 0].toArray 63))) (Rt.new wv [.slice none 0 0, .bool false, .slice none 0 0, .slice none 0 0] 63) (Below.size XE)) (by kernel_rfl) (by kernel_rfl) (by kernel_rfl)
          have hO1 := hO.out
          have hQ1 := hQ.out
          have hA1 := hA.out
          subst hO1
          subst hQ1
          subst hA1
          have hS1 := hSS.out
          subst hS1
          exact wpAnyH_at (L0_ w15.drew (drew_ext w15)) (by kernel_rfl) (by kernel_rfl) (by kernel_rfl)
      case rest =>
        as_aux_lemma =>
          obtain ⟨BR9, ar9, nr9, kr9, sr9, br9, mr9, dr9, er9, or9, fr9, rfl, b16, CR9, lr9, OR9⟩ := hcut
          generalize wc = w16 at *
          have b1216 := Ext.trans b1215 b16
          have CX16 := Lib.hid (CX.out.ext b1216)
          have F16 := Lib.hid (F2.out.ext b1216)
          have SZX16 : Hid (BX < w16.heap.size) := CX16.out.lt
          have SZ16 : Hid (w.heap.size + 1 < w16.heap.size) := by have h1 := SZ12.out; have h2 := Below.size b1216; show _ < _; omega
          have b016 := Ext.trans b012 b1216
          have HSB := Lib.hid (fun w vb x h => HSUB.out w _ vb w12.heap.size (Below.size (Ext.trans b1216 x)) (RX.out.ext (Ext.trans b1216 x)) h)
          go_upto_region 8 with (fail)
          go_cut [10] (fun s7 wx => ∃ (B4 : Nat) (ar : Option Addr) (nr kr : Nat) (sr : Bool) (br : Option Addr) (mr dr : Nat) (br' : Option Addr) (mr' dr' : Nat), s7 = .pointer (some ⟨B4, 0, none⟩) ∧ Ext w16 wx ∧ Hid (Bx wx B4 [.slice ar nr kr, .bool sr, .slice br mr dr, .slice br' mr' dr']) ∧ nr ≤ 100 ∧ Hid (RowOk 84 w12.heap.size wx ar nr))
          case first =>
            as_aux_lemma =>
              refine wp_region_noPanic ?_
              refine wp_region_held_drew (S := fun w' => (w'.cell? ⟨BX, 0, none⟩ = some (.slice (some ⟨bG, oG, none⟩) la.length k8) ∧ w'.cell? ⟨BX, 1, none⟩ = some (.bool s) ∧ w'.cell? ⟨BX, 2, none⟩ = some (.slice b m d) ∧ w'.cell? ⟨BX, 3, none⟩ = some (.slice b' m' d')) ∧ (w'.cell? ⟨w.heap.size + 1, 0, none⟩ = some (.slice ab m1 kb) ∧ w'.cell? ⟨w.heap.size + 1, 1, none⟩ = some (.bool g1) ∧ w'.cell? ⟨w.heap.size + 1, 2, none⟩ = some (t4) ∧ w'.cell? ⟨w.heap.size + 1, 3, none⟩ = some (t5))) (by kernel_rfl) (⟨(CX16.out.ext (drew_ext w16)).c4, (F16.out.ext (drew_ext w16)).c4⟩) (fun hHeld => ?_)
              refine wpAnyH_take (i := 0) (v := ?_) rfl (by kernel_rfl) (by kernel_rfl) (by kernel_rfl) (fun _ _ _ h => h) (Or.inl ⟨by rfl, fun w0 hSw => ?_⟩) hHeld ?_
              rotate_left
              · (try dsimp only at hSw)
                go_simp
                try with_reducible rfl
              simp only [Act.put, List.getElem_toArray, List.getElem_cons_succ, List.getElem_cons_zero, List.setIfInBounds_toArray, List.set_cons_zero, List.set_cons_succ]
              refine wpAnyH_take (i := 1) (v := ?_) rfl (by kernel_rfl) (by kernel_rfl) (by kernel_rfl) (fun _ _ _ h => h) (Or.inl ⟨by rfl, fun w0 hSw => ?_⟩) hHeld ?_
              rotate_left
              · (try dsimp only at hSw)
                go_simp
                try with_reducible rfl
              simp only [Act.put, List.getElem_toArray, List.getElem_cons_succ, List.getElem_cons_zero, List.setIfInBounds_toArray, List.set_cons_zero, List.set_cons_succ]
              refine anyH_cap fun O Q9 AA hO hQ hA => ?_
              obtain ⟨SS, hSS⟩ : ∃ SS : World → Prop, Hid (SS = fun w' => (w'.cell? ⟨BX, 0, none⟩ = some (.slice (some ⟨bG, oG, none⟩) la.length k8) ∧ w'.cell? ⟨BX, 1, none⟩ = some (.bool s) ∧ w'.cell? ⟨BX, 2, none⟩ = some (.slice b m d) ∧ w'.cell? ⟨BX, 3, none⟩ = some (.slice b' m' d')) ∧ (w'.cell? ⟨w.heap.size + 1, 0, none⟩ = some (.slice ab m1 kb) ∧ w'.cell? ⟨w.heap.size + 1, 1, none⟩ = some (.bool g1) ∧ w'.cell? ⟨w.heap.size + 1, 2, none⟩ = some (t4) ∧ w'.cell? ⟨w.heap.size + 1, 3, none⟩ = some (t5))) := ⟨_, rfl⟩
              have KP : Hid (∀ wv, Ext w16 wv → SS wv) := fun wv XE => by rw [hSS.out]; exact ⟨(CX16.out.ext XE).c4, (F16.out.ext XE).c4⟩
              have L2_4 : ∀ (wv : World) (v2 v3 : Value) (B4 : Nat), Hid (Ext w16 wv) → Hid (OwnX 0 wv v2 lb cb) → Hid (RsX 84 w12.heap.size wv v3) → Hid (Rt wv B4 4 63) → Hid (w16.heap.size ≤ B4) → wpAnyH Try.prog .any O Q9 SS 1 #[true, true, true, true, true, false] (((AA.put (some 52) v2).put (some 53) v3).put (some 10) (.pointer (some ⟨B4, 0, none⟩))) wv := by
                intro wv v2 v3 B4 hX p2 p3 r4 s4
                have hO1 := hO.out
                have hQ1 := hQ.out
                have hA1 := hA.out
                subst hO1
                subst hQ1
                subst hA1
                have XE := hX.out
                have hS1 := hSS.out
                subst hS1
                have hHeld : (fun w' => (w'.cell? ⟨BX, 0, none⟩ = some (.slice (some ⟨bG, oG, none⟩) la.length k8) ∧ w'.cell? ⟨BX, 1, none⟩ = some (.bool s) ∧ w'.cell? ⟨BX, 2, none⟩ = some (.slice b m d) ∧ w'.cell? ⟨BX, 3, none⟩ = some (.slice b' m' d')) ∧ (w'.cell? ⟨w.heap.size + 1, 0, none⟩ = some (.slice ab m1 kb) ∧ w'.cell? ⟨w.heap.size + 1, 1, none⟩ = some (.bool g1) ∧ w'.cell? ⟨w.heap.size + 1, 2, none⟩ = some (t4) ∧ w'.cell? ⟨w.heap.size + 1, 3, none⟩ = some (t5))) wv := ⟨(CX16.out.ext XE).c4, (F16.out.ext XE).c4⟩
                try simp only [Act.put, List.getElem_toArray, List.getElem_cons_succ, List.getElem_cons_zero, List.setIfInBounds_toArray, List.set_cons_zero, List.set_cons_succ]
                have k0_4 : BX ≠ B4 := by have h1 := s4.out; have hz0 := SZ16.out; have hz1 := SZX16.out; omega
                have k1_4 : w.heap.size + 1 ≠ B4 := by have h1 := s4.out; have hz0 := SZ16.out; have hz1 := SZX16.out; omega
                obtain ⟨pa, pn, pk, ps, pb, pm, pd, pb', pm', pd', rfl, pl, pr⟩ := p3.out
                obtain ⟨_, _, _, _, i4_0, i4_1, i4_2, i4_3, f4_0, f4_1, f4_2, f4_3⟩ := r4.out.c4
                refine wpAnyH_ready (rs := [5]) (by kernel_rfl) (by simp) ?_
                refine AllReadyH.cons (o := _) rfl (fun K hK => ?_) AllReadyH.nil
                go_simp
                refine hK.out _ _ (⟨(((((CX16.out.ext XE).set1 k0_4 _ _).set1 k0_4 _ _).set1 k0_4 _ _).set1 k0_4 _ _).c4, (((((F16.out.ext XE).set1 k1_4 _ _).set1 k1_4 _ _).set1 k1_4 _ _).set1 k1_4 _ _).c4⟩) (fun hHeld => ?_)
                clear hK K
                try simp only [Act.put, List.getElem_toArray, List.getElem_cons_succ, List.getElem_cons_zero, List.setIfInBounds_toArray, List.set_cons_zero, List.set_cons_succ]
                refine wpAnyH_done (by kernel_rfl) ?_ _
                refine NoPanic.normal ?_
                go_wp2_with fail
                go_meet
                obtain ⟨W, hW, hM1, hM2, hM3⟩ := meet4r (Q := fun w => RowOk 84 w12.heap.size w pa pn) r4.out hX.out s4.out (fun w b cs hr h => h.putT hr (by decide) 0 cs) pr
                rw [← hW]
                exact ⟨B4, pa, pn, pk, _, _, _, _, _, _, _, rfl, hM1, hM2, pl, hM3⟩
              have L1_4 : ∀ (wv : World) (v2 : Value) (B4 : Nat), Hid (Ext w16 wv) → Hid (OwnX 0 wv v2 lb cb) → Hid (Rt wv B4 4 63) → Hid (w16.heap.size ≤ B4) → wpAnyH Try.prog .any O Q9 SS 2 #[true, true, true, false, true, false] ((AA.put (some 52) v2).put (some 10) (.pointer (some ⟨B4, 0, none⟩))) wv := by
                intro wv v2 B4 hX p2 r4 s4
                have hO1 := hO.out
                have hQ1 := hQ.out
                have hA1 := hA.out
                subst hO1
                subst hQ1
                subst hA1
                have XE := hX.out
                try simp only [Act.put, List.getElem_toArray, List.getElem_cons_succ, List.getElem_cons_zero, List.setIfInBounds_toArray, List.set_cons_zero, List.set_cons_succ]
                refine wpAnyH_ready (rs := [3]) (by kernel_rfl) (by simp) ?_
                refine AllReadyH.cons (o := _) rfl (fun K hK => ?_) AllReadyH.nil
                go_simp
                go_at_call 45
                refine (HSB.out _ _ XE p2.out.rd).mono ?_
                rintro e wn ⟨vn, rfl, bn, on⟩
                go_wp2_with fail
                refine hK.out _ _ (KP.out _ (Ext.trans XE bn)) (fun _ => ?_)
                clear hK K
                try simp only [Act.put, List.getElem_toArray, List.getElem_cons_succ, List.getElem_cons_zero, List.setIfInBounds_toArray, List.set_cons_zero, List.set_cons_succ]
                exact wpAnyH_at (L2_4 wn v2 vn B4 (Ext.trans XE bn) (p2.out.ext bn) (on) (r4.out.ext bn) s4) (by kernel_rfl) (by kernel_rfl) (by kernel_rfl)
              have L2_ : ∀ (wv : World) (v2 v3 : Value), Hid (Ext w16 wv) → Hid (OwnX 0 wv v2 lb cb) → Hid (RsX 84 w12.heap.size wv v3) → wpAnyH Try.prog .any O Q9 SS 2 #[true, true, true, true, false, false] ((AA.put (some 52) v2).put (some 53) v3) wv := by
                intro wv v2 v3 hX p2 p3
                have hO1 := hO.out
                have hQ1 := hQ.out
                have hA1 := hA.out
                subst hO1
                subst hQ1
                subst hA1
                have XE := hX.out
                try simp only [Act.put, List.getElem_toArray, List.getElem_cons_succ, List.getElem_cons_zero, List.setIfInBounds_toArray, List.set_cons_zero, List.set_cons_succ]
                refine wpAnyH_ready (rs := [4]) (by kernel_rfl) (by simp) ?_
                refine AllReadyH.cons (o := _) rfl (fun K hK => ?_) AllReadyH.nil
                go_simp
                refine hK.out _ _ (KP.out _ (Ext.trans XE (Ext.alloc _ _))) (fun _ => ?_)
                clear hK K
                try simp only [Act.put, List.getElem_toArray, List.getElem_cons_succ, List.getElem_cons_zero, List.setIfInBounds_toArray, List.set_cons_zero, List.set_cons_succ]
                exact wpAnyH_at (L2_4 _ v2 v3 wv.heap.size (Ext.trans XE (Ext.alloc wv (.cells [.slice none 0 0, .bool false, .slice none 0 0, .slice none 0 0].toArray 63))) (p2.out.ext (Ext.alloc wv (.cells [.slice none 0 0, .bool false, .slice none 0 0, .slice none 0 0].toArray 63))) (p3.out.ext (Ext.alloc wv (.cells [.slice none 0 0, .bool false, .slice none 0 0, .slice none 0 0].toArray 63))) (Rt.new wv [.slice none 0 0, .bool false, .slice none 0 0, .slice none 0 0] 63) (Below.size XE)) (by kernel_rfl) (by kernel_rfl) (by kernel_rfl)
              have L0_4 : ∀ (wv : World) (B4 : Nat), Hid (Ext w16 wv) → Hid (Rt wv B4 4 63) → Hid (w16.heap.size ≤ B4) → wpAnyH Try.prog .any O Q9 SS 3 #[true, true, false, false, true, false] (AA.put (some 10) (.pointer (some ⟨B4, 0, none⟩))) wv := by
                intro wv B4 hX r4 s4
                have hO1 := hO.out
                have hQ1 := hQ.out
                have hA1 := hA.out
                subst hO1
                subst hQ1
                subst hA1
                have XE := hX.out
                try simp only [Act.put, List.getElem_toArray, List.getElem_cons_succ, List.getElem_cons_zero, List.setIfInBounds_toArray, List.set_cons_zero, List.set_cons_succ]
                refine wpAnyH_ready (rs := [2]) (by kernel_rfl) (by simp) ?_
                refine AllReadyH.cons (o := _) rfl (fun K hK => ?_) AllReadyH.nil
                go_simp
                go_at_call 31
                refine (HEB.out _ _ (HV1.out.ext (Ext.trans b016 XE))).mono ?_
                rintro e wn ⟨vn, rfl, bn, on⟩
                go_wp2_with fail
                refine hK.out _ _ (KP.out _ (Ext.trans XE bn)) (fun _ => ?_)
                clear hK K
                try simp only [Act.put, List.getElem_toArray, List.getElem_cons_succ, List.getElem_cons_zero, List.setIfInBounds_toArray, List.set_cons_zero, List.set_cons_succ]
                exact wpAnyH_at (L1_4 wn vn B4 (Ext.trans XE bn) (on) (r4.out.ext bn) s4) (by kernel_rfl) (by kernel_rfl) (by kernel_rfl)
              have L1_ : ∀ (wv : World) (v2 : Value), Hid (Ext w16 wv) → Hid (OwnX 0 wv v2 lb cb) → wpAnyH Try.prog .any O Q9 SS 3 #[true, true, true, false, false, false] (AA.put (some 52) v2) wv := by
                intro wv v2 hX p2
                have hO1 := hO.out
                have hQ1 := hQ.out
                have hA1 := hA.out
                subst hO1
                subst hQ1
                subst hA1
                have XE := hX.out
                try simp only [Act.put, List.getElem_toArray, List.getElem_cons_succ, List.getElem_cons_zero, List.setIfInBounds_toArray, List.set_cons_zero, List.set_cons_succ]
                refine wpAnyH_ready (rs := [3, 4]) (by kernel_rfl) (by simp) ?_
                refine AllReadyH.cons (o := _) rfl (fun K hK => ?_) (AllReadyH.cons (o := _) rfl (fun K hK => ?_) AllReadyH.nil)
                · skip
                  go_simp
                  go_at_call 45
                  refine (HSB.out _ _ XE p2.out.rd).mono ?_
                  rintro e wn ⟨vn, rfl, bn, on⟩
                  go_wp2_with fail
                  refine hK.out _ _ (KP.out _ (Ext.trans XE bn)) (fun _ => ?_)
                  clear hK K
                  try simp only [Act.put, List.getElem_toArray, List.getElem_cons_succ, List.getElem_cons_zero, List.setIfInBounds_toArray, List.set_cons_zero, List.set_cons_succ]
                  exact wpAnyH_at (L2_ wn v2 vn (Ext.trans XE bn) (p2.out.ext bn) (on)) (by kernel_rfl) (by kernel_rfl) (by kernel_rfl)
                · skip
                  go_simp
                  refine hK.out _ _ (KP.out _ (Ext.trans XE (Ext.alloc _ _))) (fun _ => ?_)
                  clear hK K
                  try simp only [Act.put, List.getElem_toArray, List.getElem_cons_succ, List.getElem_cons_zero, List.setIfInBounds_toArray, List.set_cons_zero, List.set_cons_succ]
                  exact wpAnyH_at (L1_4 _ v2 wv.heap.size (Ext.trans XE (Ext.alloc wv (.cells [.slice none 0 0, .bool false, .slice none 0 0, .slice none 0 0].toArray 63))) (p2.out.ext (Ext.alloc wv (.cells [.slice none 0 0, .bool false, .slice none 0 0, .slice none 0 0].toArray 63))) (Rt.new wv [.slice none 0 0, .bool false, .slice none 0 0, .slice none 0 0] 63) (Below.size XE)) (by kernel_rfl) (by kernel_rfl) (by kernel_rfl)
              have L0_ : ∀ (wv : World), Hid (Ext w16 wv) → wpAnyH Try.prog .any O Q9 SS 4 #[true, true, false, false, false, false] AA wv := by
                intro wv hX
                have hO1 := hO.out
                have hQ1 := hQ.out
                have hA1 := hA.out
                subst hO1
                subst hQ1
                subst hA1
                have XE := hX.out
                try simp only [Act.put, List.getElem_toArray, List.getElem_cons_succ, List.getElem_cons_zero, List.setIfInBounds_toArray, List.set_cons_zero, List.set_cons_succ]
                refine wpAnyH_ready (rs := [2, 4]) (by kernel_rfl) (by simp) ?_
                refine AllReadyH.cons (o := _) rfl (fun K hK => ?_) (AllReadyH.cons (o := _) rfl (fun K hK => ?_) AllReadyH.nil)
                · skip
                  go_simp
                  go_at_call 31
                  refine (HEB.out _ _ (HV1.out.ext (Ext.trans b016 XE))).mono ?_
                  rintro e wn ⟨vn, rfl, bn, on⟩
                  go_wp2_with fail
                  refine hK.out _ _ (KP.out _ (Ext.trans XE bn)) (fun _ => ?_)
                  clear hK K
                  try simp only [Act.put, List.getElem_toArray, List.getElem_cons_succ, List.getElem_cons_zero, List.setIfInBounds_toArray, List.set_cons_zero, List.set_cons_succ]
                  exact wpAnyH_at (L1_ wn vn (Ext.trans XE bn) (on)) (by kernel_rfl) (by kernel_rfl) (by kernel_rfl)
                · skip
                  go_simp
                  refine hK.out _ _ (KP.out _ (Ext.trans XE (Ext.alloc _ _))) (fun _ => ?_)
                  clear hK K
                  try simp only [Act.put, List.getElem_toArray, List.getElem_cons_succ, List.getElem_cons_zero, List.setIfInBounds_toArray, List.set_cons_zero, List.set_cons_succ]
                  exact wpAnyH_at (L0_4 _ wv.heap.size (Ext.trans XE (Ext.alloc wv (.cells [.slice none 0 0, .bool false, .slice none 0 0, .slice none 0 0].toArray 63))) (Rt.new wv [.slice none 0 0, .bool false, .slice none 0 0, .slice none 0 0] 63) (Below.size XE)) (by kernel_rfl) (by kernel_rfl) (by kernel_rfl)
              have hO1 := hO.out
              have hQ1 := hQ.out
              have hA1 := hA.out
              subst hO1
              subst hQ1
              subst hA1
              have hS1 := hSS.out
              subst hS1
              exact wpAnyH_at (L0_ w16.drew (drew_ext w16)) (by kernel_rfl) (by kernel_rfl) (by kernel_rfl)
          case rest =>
            as_aux_lemma =>
              obtain ⟨BR10, ar10, nr10, kr10, sr10, br10, mr10, dr10, er10, or10, fr10, rfl, b17, CR10, lr10, OR10⟩ := hcut
              generalize wc = w17 at *
              have b1217 := Ext.trans b1216 b17
              obtain ⟨k0, k1, k2, k3⟩ := (CR7.out.ext (Ext.trans b1315 (Ext.trans b16 b17))).c4
              obtain ⟨k4, k5, k6, k7⟩ := (C15.out.ext (Ext.trans b16 b17)).c4
              obtain ⟨k8', k9, k10, k11⟩ := (CR9.out.ext b17).c4
              obtain ⟨k12, k13, k14, k15⟩ := CR10.out.c4
              have LT0 := Lib.hid (LT.new (u := 63) (k0 := kr7) (k1 := k8'_) (k2 := kr9) (k3 := kr10) (s0 := sr7) (b0 := br7) (m0 := mr7) (d0 := dr7) (e0 := er7) (o0 := or7) (f0 := fr7) (s1 := s8') (b1 := b8') (m1 := m8') (d1 := d8') (e1 := b9') (o1 := m9') (f1 := d9') (s2 := sr9) (b2 := br9) (m2 := mr9) (d2 := dr9) (e2 := er9) (o2 := or9) (f2 := fr9) (s3 := sr10) (b3 := br10) (m3 := mr10) (d3 := dr10) (e3 := er10) (o3 := or10) (f3 := fr10) (OR7.out.ext (Ext.trans b1315 (Ext.trans b16 b17))) (OR8.out.ext (Ext.trans b16 b17)) (OR9.out.ext b17) OR10.out lr7 l8' lr9 lr10)
              have b18 := Ext.alloc w17 (.cells #[.slice ar7 nr7 kr7, .bool sr7, .slice br7 mr7 dr7, .slice er7 or7 fr7, .slice a8' n8' k8'_, .bool s8', .slice b8' m8' d8', .slice b9' m9' d9', .slice ar9 nr9 kr9, .bool sr9, .slice br9 mr9 dr9, .slice er9 or9 fr9, .slice ar10 nr10 kr10, .bool sr10, .slice br10 mr10 dr10, .slice er10 or10 fr10] 63)
              go_wp2_with (refine build4L etE4 rfl (by rfl) (by rfl) (by rfl) (by rfl) (by rfl) ?_)
              clear k0 k1 k2 k3 k4 k5 k6 k7 k8' k9 k10 k11 k12 k13 k14 k15
              obtain ⟨LB, hLB⟩ : ∃ LB, w17.heap.size = LB := ⟨_, rfl⟩
              rw [hLB] at LT0 ⊢
              clear hLB
              go_loopw [60] (fun t wr => ∃ j : Nat, t = .int .i64 j ∧ j ≤ 4 ∧ Ext w12 wr ∧ Hid (LT 84 63 w12.heap.size wr LB)) (fun t _ => 4 - (intOf t).toNat)
              case atStart => exact ⟨0, rfl, Nat.zero_le _, Ext.trans b1217 b18, LT0.out⟩
              case round =>
                clear LT0
                obtain ⟨j, rfl, hj, hx, hL⟩ := hrel
                by_cases hjl : j < 4
                · have hd : decide ((j : Int) < 4) = true := decide_eq_true (by omega)
                  obtain ⟨ar, nr, kr, sr, br, mr, dr, br', mr', dr', hnr, hB4, hRo⟩ := hL.out.2 j hjl
                  obtain ⟨u0, u1, u2, u3⟩ := hB4
                  have hJ1 : IntKind.i64.wrap (j : Int) = (j : Int) := by rw [IntKind.wrap_i64]; omega
                  have hJ2 : (0 : Int) ≤ (j : Int) ∧ (j : Int) < 4 := ⟨by omega, by omega⟩
                  obtain ⟨w20, hw20, b20, c20, -, -⟩ := bx1 wr [.slice ar nr kr, .bool sr, .slice br mr dr, .slice br' mr' dr'] 63
                  have HW := Lib.hid hw20
                  have R20 : Hid (Rt w20 wr.heap.size 4 63) := by
                    show Rt _ _ _ _
                    rw [hw20]
                    exact Rt.new wr [.slice ar nr kr, .bool sr, .slice br mr dr, .slice br' mr' dr'] 63
                  have C20 := Lib.hid c20
                  clear hw20 c20
                  go_upto_region 12 with (fail)
                  rw [← HW.out]
                  clear HW u0 u1 u2 u3
                  obtain ⟨EB, hEB⟩ : ∃ EB, wr.heap.size = EB := ⟨_, rfl⟩
                  rw [hEB] at R20 C20 ⊢
                  clear hEB
                  have x20 := Ext.trans hx b20
                  have hL20 := Lib.hid (hL.out.ext b20)
                  have hR20 := Lib.hid (hRo.ext b20)
                  have k0 := C20.out.c1
                  go_wp2_with fail
                  clear k0
                  go_loopw [67] (fun t wy => ∃ i : Nat, t = .int .i64 i ∧ i ≤ nr ∧ Ext w12 wy ∧ Hid (LT 84 63 w12.heap.size wy LB) ∧ Hid (Bx wy EB [.slice ar nr kr, .bool sr, .slice br mr dr, .slice br' mr' dr']) ∧ Hid (Rt wy EB 4 63) ∧ Hid (RowOk 84 w12.heap.size wy ar nr)) (fun t _ => nr - (intOf t).toNat)
                  case atStart => exact ⟨0, rfl, Nat.zero_le _, x20, hL20.out, C20.out, R20.out, hR20.out⟩
                  case round =>
                    clear R20 C20 hL20 hR20
                    obtain ⟨i, rfl, hi, hy, hLy, hCy, hRy, hOy⟩ := hrel
                    by_cases hil : i < nr
                    · have hd2 : decide ((i : Int) < (nr : Int)) = true := decide_eq_true (by omega)
                      have hI1 : IntKind.i64.wrap (i : Int) = (i : Int) := by rw [IntKind.wrap_i64]; omega
                      have hI2 : (0 : Int) ≤ (i : Int) ∧ (i : Int) < (nr : Int) := ⟨by omega, by omega⟩
                      rcases hOy.out with h0 | ⟨g, S, rfl, hg1, hg2, hg3⟩
                      · omega
                      have HG3 := Lib.hid hg3
                      obtain ⟨x0, e0, f0⟩ := hg3.rm.at (i * 4) (by omega)
                      obtain ⟨x1, e1, f1⟩ := hg3.rm.at (i * 4 + 1) (by omega)
                      obtain ⟨x2, e2, f2⟩ := hg3.rm.at (i * 4 + 2) (by omega)
                      obtain ⟨x3, e3, f3⟩ := hg3.rm.at (i * 4 + 3) (by omega)
                      have HNE : Hid (EB ≠ g) := hRy.out.ne hg3 (by decide)
                      clear hg3
                      have k0 := hCy.out.c1
                      go_wp2_with fail
                      go_roundw
                      case rel => exact ⟨i + 1, by go_num, by omega, put4_below hy hg1 (i * 4) _ _ _ _, hLy.out.put4 HG3.out (by decide) (i * 4) _ _ _ _, hCy.out.put4 HNE.out (i * 4) _ _ _ _, hRy.out.put4 g (i * 4) _ _ _ _, hOy.out.put4 g (i * 4) _ _ _ _⟩
                      case measure => simp [intOf] <;> omega
                    · obtain rfl : i = nr := by omega
                      have hd2 : decide ((i : Int) < (i : Int)) = false := decide_eq_false (by omega)
                      go_wp2_with fail
                      go_roundw
                      case rel => exact ⟨j + 1, by go_num, by omega, hy, hLy.out⟩
                      case measure => simp [intOf] <;> omega
                · obtain rfl : j = 4 := by omega
                  have hW2 : IntKind.i64.wrap ((la.length : Int) + 1) = (lx.length : Int) := by rw [IntKind.wrap_i64]; have := HXL.out; omega
                  have hs2 : (0 : Int) ≤ (lx.length : Int) ∧ (lx.length : Int) ≤ (k8 : Int) := ⟨by omega, by omega⟩
                  have hW1 : IntKind.i64.wrap ((lx.length : Int) - 1) = (la.length : Int) := by rw [IntKind.wrap_i64]; have := HXL.out; omega
                  have hs3 : (0 : Int) ≤ (la.length : Int) ∧ (la.length : Int) < (lx.length : Int) := ⟨by omega, by have := HXL.out; omega⟩
                  obtain ⟨k0, k1, k2, k3⟩ := (CX.out.ext hx).c4
                  go_wp2_with fail
                  refine awake08.mono ?_
                  rintro e w21 ⟨_, rfl, b21, rfl⟩
                  clear k0 k1 k2 k3
                  have x21 := Ext.trans hx b21
                  obtain ⟨y1, y2, y3, hb4⟩ := HRM12.out
                  obtain ⟨u0, u1, u2, u3⟩ := hb4.ext x21
                  have CX21 := Lib.hid (CX.out.ext x21)
                  have CW21 := Lib.hid (C12.out.ext x21)
                  have RR21 := Lib.hid (RR.out.ext OwnTm.ext x21)
                  have HW21 := Lib.hid (HWR.out.ext OwnTm.ext x21)
                  obtain ⟨k0, k1, k2, k3⟩ := CW21.out.c4
                  go_wp2_with fail
                  clear u0 u1 u2 u3 k0 k1 k2 k3
                  go_loopw [99] (fun t wr => ∃ i : Nat, t = .int .i64 i ∧ i ≤ la.length ∧ Ext w21 wr) (fun t _ => la.length - (intOf t).toNat)
                  case atStart => exact ⟨0, rfl, Nat.zero_le _, Ext.refl _⟩
                  case round =>
                    obtain ⟨i, rfl, hi, hz⟩ := hrel
                    by_cases hil : i < la.length
                    · have hd2 : decide ((i : Int) < (la.length : Int)) = true := decide_eq_true (by omega)
                      have hI1 : IntKind.i64.wrap (i : Int) = (i : Int) := by rw [IntKind.wrap_i64]; omega
                      have hI2 : (0 : Int) ≤ (i : Int) ∧ (i : Int) < (la.length : Int) := ⟨by omega, by omega⟩
                      obtain ⟨sx, ax, lx', mx, ay, ly, my, hBx, hQx⟩ := RR21.out.tm i hil
                      obtain ⟨bT, oT, rfl⟩ := HW21.out.some_at hil
                      obtain ⟨sz, az, lz, mz, az', lz', mz', hBz, hQz⟩ := HW21.out.tm i hil
                      have HSQ : Hid (Sz 8 (gt la i).2) := by rw [gt_lt hil]; exact ZA.out.2.1 _ (List.getElem_mem hil)
                      generalize (gt la i).1 = y at *
                      generalize (gt la i).2 = q at *
                      obtain ⟨w22, hw22⟩ : ∃ w0 : World, w0 = wr := ⟨_, rfl⟩
                      subst hw22
                      have DX := Lib.hid (hBx.ext hz)
                      have DZ := Lib.hid (hBz.ext hz)
                      have QX := Lib.hid (hQx.ext hz)
                      have QZ := Lib.hid (hQz.ext hz)
                      have GX := Lib.hid (CX21.out.ext hz)
                      have GW := Lib.hid (CW21.out.ext hz)
                      have HZ : Hid ((q - q).num.sign = 0) := by show _ = _; rw [Rat.sub_self]; rfl
                      clear hBx hBz hQx hQz
                      go_upto_region 24 with (fail)
                      have b23 := drew_ext w22
                      have XE := b23
                      refine wp_region_noPanic ?_
                      refine wp_region_held_drew (S := fun w' => (w'.cell? ⟨BX, 0, none⟩ = some (.slice (some ⟨bG, oG, none⟩) la.length k8) ∧ w'.cell? ⟨BX, 1, none⟩ = some (.bool s) ∧ w'.cell? ⟨BX, 2, none⟩ = some (.slice b m d) ∧ w'.cell? ⟨BX, 3, none⟩ = some (.slice b' m' d')) ∧ (w'.cell? ⟨BW, 0, none⟩ = some (.slice (some ⟨bT, oT, none⟩) la.length kw) ∧ w'.cell? ⟨BW, 1, none⟩ = some (.bool sw) ∧ w'.cell? ⟨BW, 2, none⟩ = some (.slice bw mw dw) ∧ w'.cell? ⟨BW, 3, none⟩ = some (.slice bw' mw' dw')) ∧ (w'.cell? ⟨bG, oG + i * 4, none⟩ = some (.int .i64 y) ∧ w'.cell? ⟨bG, oG + i * 4 + 1, none⟩ = some (.bool sx) ∧ w'.cell? ⟨bG, oG + i * 4 + 2, none⟩ = some (.slice ax lx' mx) ∧ w'.cell? ⟨bG, oG + i * 4 + 3, none⟩ = some (.slice ay ly my)) ∧ (w'.cell? ⟨bT, oT + i * 4, none⟩ = some (.int .i64 y) ∧ w'.cell? ⟨bT, oT + i * 4 + 1, none⟩ = some (.bool sz) ∧ w'.cell? ⟨bT, oT + i * 4 + 2, none⟩ = some (.slice az lz mz) ∧ w'.cell? ⟨bT, oT + i * 4 + 3, none⟩ = some (.slice az' lz' mz'))) (by kernel_rfl) (⟨(GX.out.ext XE).c4, (GW.out.ext XE).c4, DX.out.ext XE, DZ.out.ext XE⟩) (fun hHeld => ?_)
                      refine wpAnyH_take (i := 0) (v := ?_) rfl (by kernel_rfl) (by kernel_rfl) (by kernel_rfl) (fun _ _ _ h => h) (Or.inl ⟨by rfl, fun w0 hSw => ?_⟩) hHeld ?_
                      rotate_left
                      · (try dsimp only at hSw)
                        go_simp
                        try with_reducible rfl
                      simp only [Act.put, List.getElem_toArray, List.getElem_cons_succ, List.getElem_cons_zero, List.setIfInBounds_toArray, List.set_cons_zero, List.set_cons_succ]
                      refine wpAnyH_take (i := 1) (v := ?_) rfl (by kernel_rfl) (by kernel_rfl) (by kernel_rfl) (fun _ _ _ h => h) (Or.inl ⟨by rfl, fun w0 hSw => ?_⟩) hHeld ?_
                      rotate_left
                      · (try dsimp only at hSw)
                        go_simp
                        try with_reducible rfl
                      simp only [Act.put, List.getElem_toArray, List.getElem_cons_succ, List.getElem_cons_zero, List.setIfInBounds_toArray, List.set_cons_zero, List.set_cons_succ]
                      refine wpAnyH_take (i := 2) (v := ?_) rfl (by kernel_rfl) (by kernel_rfl) (by kernel_rfl) (fun _ _ _ h => h) (Or.inl ⟨by rfl, fun w0 hSw => ?_⟩) hHeld ?_
                      rotate_left
                      · (try dsimp only at hSw)
                        go_simp
                        try with_reducible rfl
                      simp only [Act.put, List.getElem_toArray, List.getElem_cons_succ, List.getElem_cons_zero, List.setIfInBounds_toArray, List.set_cons_zero, List.set_cons_succ]
                      refine wpAnyH_take (i := 3) (v := ?_) rfl (by kernel_rfl) (by kernel_rfl) (by kernel_rfl) (fun _ _ _ h => h) (Or.inl ⟨by rfl, fun w0 hSw => ?_⟩) hHeld ?_
                      rotate_left
                      · (try dsimp only at hSw)
                        go_simp
                        try with_reducible rfl
                      simp only [Act.put, List.getElem_toArray, List.getElem_cons_succ, List.getElem_cons_zero, List.setIfInBounds_toArray, List.set_cons_zero, List.set_cons_succ]
                      refine wpAnyH_take (i := 4) (v := ?_) rfl (by kernel_rfl) (by kernel_rfl) (by kernel_rfl) (fun _ _ _ h => h) (Or.inl ⟨by rfl, fun w0 hSw => ?_⟩) hHeld ?_
                      rotate_left
                      · (try dsimp only at hSw)
                        go_simp
                        try with_reducible rfl
                      simp only [Act.put, List.getElem_toArray, List.getElem_cons_succ, List.getElem_cons_zero, List.setIfInBounds_toArray, List.set_cons_zero, List.set_cons_succ]
                      refine wpAnyH_take (i := 5) (v := ?_) rfl (by kernel_rfl) (by kernel_rfl) (by kernel_rfl) (fun _ _ _ h => h) (Or.inl ⟨by rfl, fun w0 hSw => ?_⟩) hHeld ?_
                      rotate_left
                      · (try dsimp only at hSw)
                        go_simp
                        try with_reducible rfl
                      simp only [Act.put, List.getElem_toArray, List.getElem_cons_succ, List.getElem_cons_zero, List.setIfInBounds_toArray, List.set_cons_zero, List.set_cons_succ]
                      refine wpAnyH_take (i := 6) (v := ?_) rfl (by kernel_rfl) (by kernel_rfl) (by kernel_rfl) (fun _ _ _ h => h) (Or.inl ⟨by rfl, fun w0 hSw => ?_⟩) hHeld ?_
                      rotate_left
                      · (try dsimp only at hSw)
                        go_simp
                        try with_reducible rfl
                      simp only [Act.put, List.getElem_toArray, List.getElem_cons_succ, List.getElem_cons_zero, List.setIfInBounds_toArray, List.set_cons_zero, List.set_cons_succ]
                      refine wpAnyH_take (i := 7) (v := ?_) rfl (by kernel_rfl) (by kernel_rfl) (by kernel_rfl) (fun _ _ _ h => h) (Or.inl ⟨by rfl, fun w0 hSw => ?_⟩) hHeld ?_
                      rotate_left
                      · (try dsimp only at hSw)
                        go_simp
                        try with_reducible rfl
                      simp only [Act.put, List.getElem_toArray, List.getElem_cons_succ, List.getElem_cons_zero, List.setIfInBounds_toArray, List.set_cons_zero, List.set_cons_succ]
                      refine wpAnyH_take (i := 8) (v := ?_) rfl (by kernel_rfl) (by kernel_rfl) (by kernel_rfl) (fun _ _ _ h => h) (Or.inl ⟨by rfl, fun w0 hSw => ?_⟩) hHeld ?_
                      rotate_left
                      · (try dsimp only at hSw)
                        go_simp
                        try with_reducible rfl
                      simp only [Act.put, List.getElem_toArray, List.getElem_cons_succ, List.getElem_cons_zero, List.setIfInBounds_toArray, List.set_cons_zero, List.set_cons_succ]
                      refine wpAnyH_take (i := 9) (v := ?_) rfl (by kernel_rfl) (by kernel_rfl) (by kernel_rfl) (fun _ _ _ h => h) (Or.inl ⟨by rfl, fun w0 hSw => ?_⟩) hHeld ?_
                      rotate_left
                      · (try dsimp only at hSw)
                        go_simp
                        try with_reducible rfl
                      simp only [Act.put, List.getElem_toArray, List.getElem_cons_succ, List.getElem_cons_zero, List.setIfInBounds_toArray, List.set_cons_zero, List.set_cons_succ]
                      refine wpAnyH_take (i := 10) (v := ?_) rfl (by kernel_rfl) (by kernel_rfl) (by kernel_rfl) (fun _ _ _ h => h) (Or.inl ⟨by rfl, fun w0 hSw => ?_⟩) hHeld ?_
                      rotate_left
                      · (try dsimp only at hSw)
                        go_simp
                        try with_reducible rfl
                      simp only [Act.put, List.getElem_toArray, List.getElem_cons_succ, List.getElem_cons_zero, List.setIfInBounds_toArray, List.set_cons_zero, List.set_cons_succ]
                      refine wpAnyH_take (i := 11) (v := ?_) rfl (by kernel_rfl) (by kernel_rfl) (by kernel_rfl) (fun _ _ _ h => h) (Or.inl ⟨by rfl, fun w0 hSw => ?_⟩) hHeld ?_
                      rotate_left
                      · (try dsimp only at hSw)
                        go_simp
                        try with_reducible rfl
                      simp only [Act.put, List.getElem_toArray, List.getElem_cons_succ, List.getElem_cons_zero, List.setIfInBounds_toArray, List.set_cons_zero, List.set_cons_succ]
                      refine wpAnyH_take (i := 12) (v := ?_) rfl (by kernel_rfl) (by kernel_rfl) (by kernel_rfl) (fun _ _ _ h => h) (Or.inl ⟨by rfl, fun w0 hSw => ?_⟩) hHeld ?_
                      rotate_left
                      · (try dsimp only at hSw)
                        go_simp
                        try with_reducible rfl
                      simp only [Act.put, List.getElem_toArray, List.getElem_cons_succ, List.getElem_cons_zero, List.setIfInBounds_toArray, List.set_cons_zero, List.set_cons_succ]
                      refine wpAnyH_take (i := 13) (v := ?_) rfl (by kernel_rfl) (by kernel_rfl) (by kernel_rfl) (fun _ _ _ h => h) (Or.inl ⟨by rfl, fun w0 hSw => ?_⟩) hHeld ?_
                      rotate_left
                      · (try dsimp only at hSw)
                        go_simp
                        try with_reducible rfl
                      simp only [Act.put, List.getElem_toArray, List.getElem_cons_succ, List.getElem_cons_zero, List.setIfInBounds_toArray, List.set_cons_zero, List.set_cons_succ]
                      refine wpAnyH_take (i := 14) (v := ?_) rfl (by kernel_rfl) (by kernel_rfl) (by kernel_rfl) (fun _ _ _ h => h) (Or.inl ⟨by rfl, fun w0 hSw => ?_⟩) hHeld ?_
                      rotate_left
                      · (try dsimp only at hSw)
                        go_simp
                        try with_reducible rfl
                      simp only [Act.put, List.getElem_toArray, List.getElem_cons_succ, List.getElem_cons_zero, List.setIfInBounds_toArray, List.set_cons_zero, List.set_cons_succ]
                      refine wpAnyH_take (i := 15) (v := ?_) rfl (by kernel_rfl) (by kernel_rfl) (by kernel_rfl) (fun _ _ _ h => h) (Or.inl ⟨by rfl, fun w0 hSw => ?_⟩) hHeld ?_
                      rotate_left
                      · (try dsimp only at hSw)
                        go_simp
                        try with_reducible rfl
                      simp only [Act.put, List.getElem_toArray, List.getElem_cons_succ, List.getElem_cons_zero, List.setIfInBounds_toArray, List.set_cons_zero, List.set_cons_succ]
                      refine wpAnyH_take (i := 16) (v := ?_) rfl (by kernel_rfl) (by kernel_rfl) (by kernel_rfl) (fun _ _ _ h => h) (Or.inl ⟨by rfl, fun w0 hSw => ?_⟩) hHeld ?_
                      rotate_left
                      · (try dsimp only at hSw)
                        go_simp
                        try with_reducible rfl
                      simp only [Act.put, List.getElem_toArray, List.getElem_cons_succ, List.getElem_cons_zero, List.setIfInBounds_toArray, List.set_cons_zero, List.set_cons_succ]
                      refine wpAnyH_take (i := 17) (v := ?_) rfl (by kernel_rfl) (by kernel_rfl) (by kernel_rfl) (fun _ _ _ h => h) (Or.inl ⟨by rfl, fun w0 hSw => ?_⟩) hHeld ?_
                      rotate_left
                      · (try dsimp only at hSw)
                        go_simp
                        try with_reducible rfl
                      simp only [Act.put, List.getElem_toArray, List.getElem_cons_succ, List.getElem_cons_zero, List.setIfInBounds_toArray, List.set_cons_zero, List.set_cons_succ]
                      refine wpAnyH_take (i := 18) (v := ?_) rfl (by kernel_rfl) (by kernel_rfl) (by kernel_rfl) (fun _ _ _ h => h) (Or.inl ⟨by rfl, fun w0 hSw => ?_⟩) hHeld ?_
                      rotate_left
                      · (try dsimp only at hSw)
                        go_simp
                        try with_reducible rfl
                      simp only [Act.put, List.getElem_toArray, List.getElem_cons_succ, List.getElem_cons_zero, List.setIfInBounds_toArray, List.set_cons_zero, List.set_cons_succ]
                      refine wpAnyH_take (i := 19) (v := ?_) rfl (by kernel_rfl) (by kernel_rfl) (by kernel_rfl) (fun _ _ _ h => h) (Or.inl ⟨by rfl, fun w0 hSw => ?_⟩) hHeld ?_
                      rotate_left
                      · (try dsimp only at hSw)
                        go_simp
                        try with_reducible rfl
                      simp only [Act.put, List.getElem_toArray, List.getElem_cons_succ, List.getElem_cons_zero, List.setIfInBounds_toArray, List.set_cons_zero, List.set_cons_succ]
                      refine wpAnyH_take (i := 20) (v := ?_) rfl (by kernel_rfl) (by kernel_rfl) (by kernel_rfl) (fun _ _ _ h => h) (Or.inl ⟨by rfl, fun w0 hSw => ?_⟩) hHeld ?_
                      rotate_left
                      · (try dsimp only at hSw)
                        go_simp
                        try with_reducible rfl
                      simp only [Act.put, List.getElem_toArray, List.getElem_cons_succ, List.getElem_cons_zero, List.setIfInBounds_toArray, List.set_cons_zero, List.set_cons_succ]
                      refine wpAnyH_take (i := 21) (v := ?_) rfl (by kernel_rfl) (by kernel_rfl) (by kernel_rfl) (fun _ _ _ h => h) (Or.inl ⟨by rfl, fun w0 hSw => ?_⟩) hHeld ?_
                      rotate_left
                      · (try dsimp only at hSw)
                        go_simp
                        try with_reducible rfl
                      simp only [Act.put, List.getElem_toArray, List.getElem_cons_succ, List.getElem_cons_zero, List.setIfInBounds_toArray, List.set_cons_zero, List.set_cons_succ]
                      refine wpAnyH_take (i := 22) (v := ?_) rfl (by kernel_rfl) (by kernel_rfl) (by kernel_rfl) (fun _ _ _ h => h) (Or.inl ⟨by rfl, fun w0 hSw => ?_⟩) hHeld ?_
                      rotate_left
                      · (try dsimp only at hSw)
                        go_simp
                        try with_reducible rfl
                      simp only [Act.put, List.getElem_toArray, List.getElem_cons_succ, List.getElem_cons_zero, List.setIfInBounds_toArray, List.set_cons_zero, List.set_cons_succ]
                      refine wpAnyH_take (i := 23) (v := ?_) rfl (by kernel_rfl) (by kernel_rfl) (by kernel_rfl) (fun _ _ _ h => h) (Or.inl ⟨by rfl, fun w0 hSw => ?_⟩) hHeld ?_
                      rotate_left
                      · (try dsimp only at hSw)
                        go_simp
                        try with_reducible rfl
                      simp only [Act.put, List.getElem_toArray, List.getElem_cons_succ, List.getElem_cons_zero, List.setIfInBounds_toArray, List.set_cons_zero, List.set_cons_succ]
                      refine wpAnyH_take (i := 24) (v := ?_) rfl (by kernel_rfl) (by kernel_rfl) (by kernel_rfl) (fun _ _ _ h => h) (Or.inl ⟨by rfl, fun w0 hSw => ?_⟩) hHeld ?_
                      rotate_left
                      · (try dsimp only at hSw)
                        go_simp
                        try with_reducible rfl
                      simp only [Act.put, List.getElem_toArray, List.getElem_cons_succ, List.getElem_cons_zero, List.setIfInBounds_toArray, List.set_cons_zero, List.set_cons_succ]
                      refine wpAnyH_take (i := 25) (v := ?_) rfl (by kernel_rfl) (by kernel_rfl) (by kernel_rfl) (fun _ _ _ h => h) (Or.inl ⟨by rfl, fun w0 hSw => ?_⟩) hHeld ?_
                      rotate_left
                      · (try dsimp only at hSw)
                        go_simp
                        try with_reducible rfl
                      simp only [Act.put, List.getElem_toArray, List.getElem_cons_succ, List.getElem_cons_zero, List.setIfInBounds_toArray, List.set_cons_zero, List.set_cons_succ]
                      refine wpAnyH_ready (rs := [26]) (by kernel_rfl) (by simp) ?_
                      refine AllReadyH.cons (o := _) rfl (fun K hK => ?_) AllReadyH.nil
                      go_simp
                      go_at_call 30; refine (HZ.out ▸ rcmp_any (QX.out.rd.ext XE) (QZ.out.rd.ext XE) (HSQ.out.le (by decide)) (HSQ.out.le (by decide))).mono ?_; rintro e w24 ⟨_, rfl, b24, rfl⟩; (first | have XE := Ext.trans XE b24 | have XE := Ext.trans (Ext.trans XE (Ext.alloc _ _)) b24)
                      go_wp2_with fail
                      refine hK.out _ _ (⟨(GX.out.ext XE).c4, (GW.out.ext XE).c4, DX.out.ext XE, DZ.out.ext XE⟩) (fun hHeld => ?_)
                      clear hK K
                      try simp only [Act.put, List.getElem_toArray, List.getElem_cons_succ, List.getElem_cons_zero, List.setIfInBounds_toArray, List.set_cons_zero, List.set_cons_succ]
                      refine wpAnyH_take (i := 27) (v := ?_) rfl (by kernel_rfl) (by kernel_rfl) (by kernel_rfl) (fun _ _ _ h => h) (Or.inl ⟨by rfl, fun w0 hSw => ?_⟩) hHeld ?_
                      rotate_left
                      · (try dsimp only at hSw)
                        go_simp
                        try with_reducible rfl
                      simp only [Act.put, List.getElem_toArray, List.getElem_cons_succ, List.getElem_cons_zero, List.setIfInBounds_toArray, List.set_cons_zero, List.set_cons_succ]
                      refine wpAnyH_take (i := 28) (v := ?_) rfl (by kernel_rfl) (by kernel_rfl) (by kernel_rfl) (fun _ _ _ h => h) (Or.inl ⟨by rfl, fun w0 hSw => ?_⟩) hHeld ?_
                      rotate_left
                      · (try dsimp only at hSw)
                        go_simp
                        try with_reducible rfl
                      simp only [Act.put, List.getElem_toArray, List.getElem_cons_succ, List.getElem_cons_zero, List.setIfInBounds_toArray, List.set_cons_zero, List.set_cons_succ]
                      refine wpAnyH_done (by kernel_rfl) ?_ _
                      refine NoPanic.normal ?_
                      go_wp2_with fail
                      go_roundw
                      case rel => exact ⟨i + 1, by go_num, by omega, Ext.trans hz XE⟩
                      case measure => simp [intOf] <;> omega
                    · obtain rfl : i = la.length := by omega
                      have hd2 : decide ((la.length : Int) < (la.length : Int)) = false := decide_eq_false (by omega)
                      go_wp2_with fail
                      exact hR.out _ _ (Gives.mk (Ext.trans b012 (Ext.trans x21 hz)) rfl)
theorem own : ownKnob Try.prog.godebug = none := by kernel_rfl
theorem laidOut : laidOutB Try.prog = true := by kernel_rfl

set_option maxRecDepth 100000 in
theorem contract (H : Type) (enc : TypeId × Value → H) (W : World) (base : Nat) (args : Array Value) (ds gs : List (DataW H)) (before : List MemPlace)
    (hval : ∀ (j : Nat) t v, Try.f6.params[j]? = some t → args[j]? = some v → Value.okWide Try.prog W .any base t v)
    (hW : DataW.Whole enc Try.prog Try.f6.params.toList Rows.linLendsSpec.vars false W args.toList ds gs before) (hk : Rows.uptoSmall H (ds ++ gs) = true) :
    Calls Try.prog 6 args W fun e W' => ∃ v, e = .returned v ∧ Rows.linLendsSpec.post enc Try.prog Try.f6 false true false false W args v W' := by
  have hW' := hW
  obtain ⟨p, q, hA0, hV, rfl, hfz, hnd⟩ := hW
  have hA : DataW.TrodAll enc Try.prog W 0 (fun _ => true) true Try.f6.params.toList args.toList ds p := hA0
  rw [Try.params6] at hA hval
  obtain ⟨v0, vs0, d0, ds0, p0, q0, hargs, rfl, rfl, h0, r0⟩ := trodAll_cons hA
  obtain ⟨v1, vs1, d1, ds1, p1, q1, rfl, rfl, rfl, h1, r1⟩ := trodAll_cons r0
  obtain ⟨rfl, rfl, rfl⟩ := trodAll_nil r1
  obtain rfl : args = #[v0, v1] := by cases args; simp_all
  obtain ⟨rfl, rfl⟩ := trodVars_none hV
  have hb := bulk_small hk
  simp only [List.append_nil, bulk_cons, bulk_nil] at hb
  have k0 := h0
  have lt0 : ∀ x ∈ p0, x.block < W.heap.size := by obtain ⟨m, hm⟩ := k0; exact DataW.trod_lt m _ _ _ hm
  obtain ⟨l0, n0, rd0, bd0, bn0, len0⟩ := open_E (hval 0 60 v0 rfl rfl) h0
  have k1 := h1
  have lt1 : ∀ x ∈ p1, x.block < W.heap.size := by obtain ⟨m, hm⟩ := k1; exact DataW.trod_lt m _ _ _ hm
  obtain ⟨l1, n1, rd1, bd1, bn1, len1⟩ := open_E (hval 1 60 v1 rfl rfl) h1
  clear hA0
  refine (walk rd0 (fun p hp => by have := bd0 p hp; omega) (by omega) (by omega) rd1 (fun p hp => by have := bd1 p hp; omega) (by omega) (by omega)).mono fun e W' ⟨v, he, bel, hv⟩ => ?_
  subst he hv
  exact ⟨_, rfl, _, _, _, [], _, [], hW', trodAll_mk1 (shut_bool Try.underlying4 _), (trodAll_cons_mk (Below.trod laidOut (by kernel_rfl) (of_decide_eq_true (by kernel_rfl)) k0 bel lt0) (trodAll_cons_mk (Below.trod laidOut (by kernel_rfl) (of_decide_eq_true (by kernel_rfl)) k1 bel lt1) trodAll_mk0)), rfl, bel.frame _, fun h => by cases h⟩

set_option maxRecDepth 100000 in
theorem lifted (os : Os) (started : os.Started) (H : Type) (enc : TypeId × Value → H) (F : Stop.Interp) :
    ReturnsInHanded {} Try.checked os 6 .any ((Rows.OpenSpec.upto Rows.linLendsSpec).pre6 enc Try.prog Try.f6 Rows.linLendsUptoRow.domain false) (((Rows.OpenSpec.upto Rows.linLendsSpec).at F).post enc Try.prog Try.f6 false true false false) := by
  refine returnsInHanded_of_cond (C := Try.checked) (s := Rows.OpenSpec.upto Rows.linLendsSpec) (k := Rows.uptoSmall) rfl own started (by kernel_rfl) Try.func6
    (OpenSpec.witness (enc := enc) (C := Try.checked) (s := Rows.OpenSpec.upto Rows.linLendsSpec) (k := Rows.uptoSmall) rfl false ⟨#[], #[.agg #[.slice none 0 0, .bool false, .slice none 0 0, .slice none 0 0], .agg #[.slice none 0 0, .bool false, .slice none 0 0, .slice none 0 0]], []⟩ 8 (by kernel_rfl) (by kernel_rfl) (by kernel_rfl)
      (x := ([.agg [.nil, .agg [.lit (.bool false), .nil, .nil]], .agg [.nil, .agg [.lit (.bool false), .nil, .nil]]], [], [])) (by kernel_rfl) rfl (by kernel_rfl)) ?_
  intro W base args ds gs before hval hW _ hk _
  exact contract H enc W base args ds gs before hval hW hk

theorem proved : Rows.LinLendsUptoSaid :=
  OpenClaim.holds_of_cond 6 Try.f6 rfl rfl rfl rfl rfl rfl rfl ⟨rfl, rfl, rfl, rfl, rfl⟩ rfl rfl rfl rfl rfl (by kernel_rfl) Try.func6 (by kernel_rfl)
    (of_decide_eq_true (by kernel_rfl)) (by unfold Func.isWrapper; first | (rw [if_pos (by decide +kernel)]; kernel_rfl) | (rw [if_neg (by decide +kernel)]; exact ⟨rfl, rfl⟩))
    (fun os started H enc _ F => lifted os started H enc F)
#print axioms proved

end Go.Proofs.Ytnbbhpihlcglgaa.linLends
