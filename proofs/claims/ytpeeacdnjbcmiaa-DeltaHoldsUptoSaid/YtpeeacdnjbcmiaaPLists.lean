/- attestlaw07.lists -/
import Derived.Test.YtpeeacdnjbcmiaaApt
import Derived.Test.YtpeeacdnjbcmiaaPBoth07o
namespace Go.Proofs.Ytpeeacdnjbcmiaa
open Go.RowKit Go.Att

def qND2 (p : NN × NN) : Rat × Rat := (qN p.1, qN p.2)
theorem take_snoc2 {α β : Type} (f : α → β) {l : List α} {k : Nat} (h : k < l.length) : (l.take (k + 1)).map f = (l.take k).map f ++ [f l[k]] := by
  rw [← List.take_append_getElem h, List.map_append]; rfl
theorem et7D : ElemT Try.prog 96 30 (.agg #[.bool false, .slice none 0 0, .slice none 0 0, .bool false, .slice none 0 0, .slice none 0 0]) 6 112 := ElemT.mk' Try.underlying96 (by kernel_rfl) rfl (by decide)
theorem et7E : ElemT Try.prog 97 35 (.agg #[.bool false, .slice none 0 0, .slice none 0 0, .bool false, .slice none 0 0, .slice none 0 0]) 6 112 := ElemT.mk' Try.underlying97 (by kernel_rfl) rfl (by decide)
abbrev OD (B : Nat) (w : World) (v : Value) (l : List (Rat × Rat)) : Prop := OwnRow 6 (OwnDp 148) 30 B w v l
abbrev OE (B : Nat) (w : World) (v : Value) (l : List (Rat × Rat)) : Prop := OwnRow 6 (OwnEp 4) 35 B w v l
/-- Four rows, each in a block of its own. -/
structure L4 (B : Nat) (w : World) (a b c d : Value) (A A' C C' : List (Rat × Rat)) : Prop where
  ha : OD B w a A
  hb : OD B w b A'
  hc : OE B w c C
  hd : OE B w d C'
  ab : Apt a b
  cd : Apt c d
theorem L4.ext {B : Nat} {w w' : World} {a b c d : Value} {A A' C C' : List (Rat × Rat)} (h : L4 B w a b c d A A' C C') (x : Ext w w') : L4 B w' a b c d A A' C C' :=
  ⟨h.ha.ext OwnD.ext x, h.hb.ext OwnD.ext x, h.hc.ext OwnE.ext x, h.hd.ext OwnE.ext x, h.ab, h.cd⟩
theorem L4.swap {B : Nat} {w : World} {a b c d : Value} {A A' C C' : List (Rat × Rat)} (h : L4 B w a b c d A A' C C') : L4 B w b a d c A' A C' C := ⟨h.hb, h.ha, h.hd, h.hc, h.ab.symm, h.cd.symm⟩
theorem L4.pushD {B : Nat} {w w' : World} {a a' b c d : Value} {A A' C C' A2 : List (Rat × Rat)} (h : L4 B w a b c d A A' C C') (o : OD B w' a' A2) (hg : w.grownBy w' a.ownBlock) (hw : ∀ g, a'.ownBlock = some g → a.ownBlock = some g ∨ w.heap.size ≤ g) :
    L4 B w' a' b c d A2 A' C C' := by
  obtain ⟨E, hE, -⟩ := h.ha
  refine ⟨o, h.hb.apart h.ab.symm hg fun v p hv => (kdD (e := 148) (e' := 30) (by decide)).grown hv hE hg, h.hc.apart (h.hc.apt h.ha (by decide)) hg fun v p hv => (kdE (e := 4) (e' := 30) (by decide)).grown hv hE hg,
    h.hd.apart (h.hd.apt h.ha (by decide)) hg fun v p hv => (kdE (e := 4) (e' := 30) (by decide)).grown hv hE hg, fun g h1 h2 => ?_, h.cd⟩
  rcases hw g h1 with h3 | h3
  · exact h.ab g h3 h2
  · have := (h.hb.lt g h2).2
    omega
theorem L4.pushE {B : Nat} {w w' : World} {a b c c' d : Value} {A A' C C' C2 : List (Rat × Rat)} (h : L4 B w a b c d A A' C C') (o : OE B w' c' C2) (hg : w.grownBy w' c.ownBlock) (hw : ∀ g, c'.ownBlock = some g → c.ownBlock = some g ∨ w.heap.size ≤ g) :
    L4 B w' a b c' d A A' C2 C' := by
  obtain ⟨E, hE, -⟩ := h.hc
  refine ⟨h.ha.apart (h.ha.apt h.hc (by decide)) hg fun v p hv => (kdD (e := 148) (e' := 35) (by decide)).grown hv hE hg, h.hb.apart (h.hb.apt h.hc (by decide)) hg fun v p hv => (kdD (e := 148) (e' := 35) (by decide)).grown hv hE hg, o,
    h.hd.apart h.cd.symm hg fun v p hv => (kdE (e := 4) (e' := 35) (by decide)).grown hv hE hg, h.ab, fun g h1 h2 => ?_⟩
  rcases hw g h1 with h3 | h3
  · exact h.cd g h3 h2
  · have := (h.hd.lt g h2).2
    omega
theorem L4.mono {B B' : Nat} {w : World} {a b c d : Value} {A A' C C' : List (Rat × Rat)} (h : L4 B w a b c d A A' C C') (hB : B' ≤ B) : L4 B' w a b c d A A' C C' := ⟨h.ha.mono hB, h.hb.mono hB, h.hc.mono hB, h.hd.mono hB, h.ab, h.cd⟩

theorem L4.new (w : World) : L4 w.heap.size ((((w.alloc (.cells #[] 30)).alloc (.cells #[] 30)).alloc (.cells #[] 35)).alloc (.cells #[] 35))
    (.slice (some ⟨w.heap.size, 0, none⟩) 0 0) (.slice (some ⟨w.heap.size + 1, 0, none⟩) 0 0) (.slice (some ⟨w.heap.size + 1 + 1, 0, none⟩) 0 0) (.slice (some ⟨w.heap.size + 1 + 1 + 1, 0, none⟩) 0 0) [] [] [] [] := by
  obtain ⟨w1, e1⟩ : ∃ w1, w1 = w.alloc (.cells #[] 30) := ⟨_, rfl⟩
  have s1 : w1.heap.size = w.heap.size + 1 := by rw [e1]; simp
  have h1 : OD w.heap.size w1 (.slice (some ⟨w.heap.size, 0, none⟩) 0 0) [] := by rw [e1]; exact OwnRow.nilLit _ (Nat.le_refl _)
  rw [← e1]
  obtain ⟨w2, e2⟩ : ∃ w2, w2 = w1.alloc (.cells #[] 30) := ⟨_, rfl⟩
  have s2 : w2.heap.size = w.heap.size + 1 + 1 := by rw [e2]; simp [s1]
  have x2 : Ext w1 w2 := by rw [e2]; exact Ext.alloc _ _
  have h2 : OD w.heap.size w2 (.slice (some ⟨w1.heap.size, 0, none⟩) 0 0) [] := by rw [e2]; exact OwnRow.nilLit _ (by omega)
  rw [← e2]
  obtain ⟨w3, e3⟩ : ∃ w3, w3 = w2.alloc (.cells #[] 35) := ⟨_, rfl⟩
  have s3 : w3.heap.size = w.heap.size + 1 + 1 + 1 := by rw [e3]; simp [s2]
  have x3 : Ext w2 w3 := by rw [e3]; exact Ext.alloc _ _
  have h3 : OE w.heap.size w3 (.slice (some ⟨w2.heap.size, 0, none⟩) 0 0) [] := by rw [e3]; exact OwnRow.nilLit _ (by omega)
  rw [← e3]
  have x4 : Ext w3 (w3.alloc (.cells #[] 35)) := Ext.alloc _ _
  have h4 : OE w.heap.size (w3.alloc (.cells #[] 35)) (.slice (some ⟨w3.heap.size, 0, none⟩) 0 0) [] := OwnRow.nilLit _ (by omega)
  rw [s1] at h2
  rw [s2] at h3
  rw [s3] at h4
  refine ⟨h1.ext OwnD.ext (x2.trans (x3.trans x4)), h2.ext OwnD.ext (x3.trans x4), h3.ext OwnE.ext x4, h4, fun g h5 h6 => ?_, fun g h5 h6 => ?_⟩
  · simp [Value.ownBlock] at h5 h6
    omega
  · simp [Value.ownBlock] at h5 h6
    omega


theorem take12 {α : Type} {l : List α} {k : Nat} (h : ¬ (k < l.length ∧ k < 12)) (h1 : k ≤ l.length) (h2 : k ≤ 12) : l.take k = l.take 12 := by
  by_cases hk : k < l.length
  · have : k = 12 := by omega
    rw [this]
  · rw [List.take_of_length_le (by omega), List.take_of_length_le (by omega)]
set_option maxRecDepth 100000 in
set_option maxHeartbeats 4000000 in
set_option linter.unusedSimpArgs false in
theorem lists_any {w : World} {v0 v1 : Value} {l0 l1 : List (NN × NN)} (hv0 : RdRow 6 RdNDp w v0 l0) (hs0 : ∀ p ∈ l0, Nlt 1000000000 p.1 ∧ Nlt 1000000000 p.2) (hv1 : RdRow 6 RdNDp w v1 l1) (hs1 : ∀ p ∈ l1, Nlt 1000000000 p.1 ∧ Nlt 1000000000 p.2) :
    Calls Try.prog 57 #[v0, v1] w (Gives w fun v' w' => ∃ a b c d, v' = .tuple #[a, b, c, d] ∧ L4 w.heap.size w' a b c d ((l0.take 12).map qND2) ((l1.take 12).map qND2) ((l0.take 12).map qND2) ((l1.take 12).map qND2)) := by
  refine via fun R hR => ?_
  have HS0 := Lib.hid hs0
  have HS1 := Lib.hid hs1
  obtain ⟨a0, c0, rfl, hlc0, hcm0⟩ := hv0.shape
  obtain ⟨a1, c1, rfl, hlc1, hcm1⟩ := hv1.shape
  have HV0 := Lib.hid hv0
  have HV1 := Lib.hid hv1
  unfold maxLen at hcm0 hcm1
  clear hv0 hs0 hv1 hs1
  go_enter Try.func57, Try.ntmps57
  go_wp2_with fail
  go_loopw [8, 10, 12] (fun a c i wr => ∃ k : Nat, i = .int .i64 k ∧ k ≤ l0.length ∧ k ≤ 12 ∧ Ext w wr ∧ Hid (L4 w.heap.size wr a (.slice (some ⟨w.heap.size + 1, 0, none⟩) 0 0) c (.slice (some ⟨w.heap.size + 1 + 1 + 1, 0, none⟩) 0 0) ((l0.take k).map qND2) [] ((l0.take k).map qND2) [])) (fun _ _ i _ => 12 - (intOf i).toNat)
  case atStart => exact ⟨0, rfl, Nat.zero_le _, Nat.zero_le _, Ext.trans (Ext.alloc _ _) (Ext.trans (Ext.alloc _ _) (Ext.trans (Ext.alloc _ _) (Ext.alloc _ _))), by rw [List.take_zero]; exact L4.new w⟩
  case round =>
    obtain ⟨k, rfl, hk, hk2, hx, hL⟩ := hrel
    go_upto_region 4 with (fail)
    go_cut [29] (fun s29 wx => s29 = .bool (decide (k < l0.length ∧ k < 12)) ∧ wx = wr)
    case first =>
      by_cases hlt : k < l0.length
      · by_cases h12 : k < 12
        · go_wp2_with fail
          go_meet
          exact ⟨by simp [hlt, h12]; omega, rfl⟩
        · go_wp2_with fail
          go_meet
          exact ⟨by simp [h12]; omega, rfl⟩
      · go_wp2_with fail
        go_meet
        exact ⟨by simp [hlt], rfl⟩
    case rest =>
      obtain ⟨rfl, rfl⟩ := hcut
      by_cases hgo : k < l0.length ∧ k < 12
      · rw [decide_eq_true hgo]
        obtain ⟨b, off, cs, rfl, hcl, hT, hc⟩ := HV0.out.at (by decide) k hgo.1
        obtain ⟨x0, x1, x2, x3, x4, x5, rfl⟩ := cells_ND hT
        have HSN := Lib.hid (take_snoc2 qND2 hgo.1)
        have HTT := Lib.hid (RdNDp.ext hT hx)
        have HSS := Lib.hid (HS0.out l0[k] (List.getElem_mem hgo.1))
        have HKL : Hid (((l0.take k).map qND2).length ≤ 34) := by show _ ≤ _; simp; omega
        have e0 := Ext.cell hx (hc 0 (by decide))
        have e1 := Ext.cell hx (hc 1 (by decide))
        have e2 := Ext.cell hx (hc 2 (by decide))
        have e3 := Ext.cell hx (hc 3 (by decide))
        have e4 := Ext.cell hx (hc 4 (by decide))
        have e5 := Ext.cell hx (hc 5 (by decide))
        simp only [List.getElem?_cons_zero, List.getElem?_cons_succ, Nat.add_zero] at e0 e1 e2 e3 e4 e5
        generalize l0[k] = p at *
        clear hT hc hcl
        go_wp2_with fail
        refine (both07o HTT.out HSS.out.1.1 HSS.out.1.2 HSS.out.2.1 HSS.out.2.2).mono ?_
        rintro e w1 ⟨_, rfl, b1, _, _, rfl, o1, o2⟩
        clear e0 e1 e2 e3 e4 e5
        obtain ⟨s0, a1, n1, c1, a2, n2, c2, s3, a4, n4, c4, a5, n5, c5, rfl, O1⟩ := o1.op
        obtain ⟨t0, d1, m1, f1, d2, m2, f2, t3, d4, m4, f4, d5, m5, f5, rfl, O2⟩ := o2.op
        clear o1 o2
        obtain ⟨w2, hw2, b2, k1, k2, -, -, -⟩ := bx2 w1 [.bool s0, .slice a1 n1 c1, .slice a2 n2 c2, .bool s3, .slice a4 n4 c4, .slice a5 n5 c5] [.bool t0, .slice d1 m1 f1, .slice d2 m2 f2, .bool t3, .slice d4 m4 f4, .slice d5 m5 f5] 30 35
        have K2 := Lib.hid k2
        have HW := Lib.hid hw2
        have SZ2 := Lib.hid (World.block_lt_of_cell? w2 _ k2.c6.1)
        have h2 := Lib.hid (hL.out.ext (Ext.trans b1 b2))
        have b02 := Ext.trans hx (Ext.trans b1 b2)
        obtain ⟨e0, e1, e2, e3, e4, e5⟩ := k1.c6
        clear hw2 k1 k2
        go_upto_region 7 with (fail)
        rw [← HW.out]
        clear HW
        go_upto_region 8 with (at_builtin; refine append_rowW (y := qND2 p) et7D (kdD (e := 148) (by decide)) (by rfl) _ _ (by rfl) w.heap.size (by rfl) _ (by rfl) h2.out.ha rfl (O1.out.ext b2) (Below.size b02) (by have := HKL.out; omega) (by unfold maxLen; have := HKL.out; omega) ?_; intro v8 w8 o8 b8 g8 h8)
        clear e0 e1 e2 e3 e4 e5
        have X8 : Hid (Ext w2 (w2.alloc (.cells #[.bool s0, .slice a1 n1 c1, .slice a2 n2 c2, .bool s3, .slice a4 n4 c4, .slice a5 n5 c5] 30))) := Ext.alloc _ _
        have L7 := Lib.hid (h2.out.ext X8.out)
        have L8 := Lib.hid (L7.out.pushD o8 g8 h8)
        have Q8 : Hid (OwnE 4 0 w8 (.agg #[.bool t0, .slice d1 m1 f1, .slice d2 m2 f2, .bool t3, .slice d4 m4 f4, .slice d5 m5 f5]) (qN p.1) (qN p.2)) := by
          obtain ⟨n, xs, hE⟩ := L7.out.ha.own
          exact (kdE (e := 4) (e' := 30) (by decide)).grown (a := (qN p.1, qN p.2)) (O2.out.ext (Ext.trans b2 X8.out)) hE g8
        have b08 := Lib.hid (Below.trans b02 b8)
        obtain ⟨e0, e1, e2, e3, e4, e5⟩ := ((K2.out.ext X8.out).grow g8 (fun h => by have h1 := (hL.out.ha.lt _ h).2; have h3 := Below.size b1; omega)).c6
        clear o8 g8 h8 b8 h2
        go_wp2_with (at_builtin; refine append_rowW (y := qND2 p) et7E (kdE (e := 4) (by decide)) (by rfl) _ _ (by rfl) w.heap.size (by rfl) _ (by rfl) L8.out.hc rfl Q8.out (Below.size b08.out) (by have := HKL.out; omega) (by unfold maxLen; have := HKL.out; omega) ?_; intro v9 w9 o9 b9 g9 h9)
        have X9 : Hid (Ext w8 (w8.alloc (.cells #[.bool t0, .slice d1 m1 f1, .slice d2 m2 f2, .bool t3, .slice d4 m4 f4, .slice d5 m5 f5] 35))) := Ext.alloc _ _
        have L9 := Lib.hid ((L8.out.ext X9.out).pushE o9 g9 h9)
        clear e0 e1 e2 e3 e4 e5 o9 g9 h9
        go_roundw
        case rel => exact ⟨k + 1, by go_num, by omega, by omega, Below.trans b08.out b9, by rw [HSN.out]; exact L9.out⟩
        case measure => simp [intOf] <;> omega
      · rw [decide_eq_false hgo]
        have HT12 := Lib.hid (take12 hgo hk hk2)
        clear hgo hk2 hk
        rw [HT12.out] at hL
        have b03 := hx
        generalize (l0.take 12).map qND2 = A at *
        go_wp2_with fail
        clear hx HT12
        generalize u8 = va at *
        generalize u10 = vc at *
        go_loopw [9, 11, 15] (fun b d i wr => ∃ k : Nat, i = .int .i64 k ∧ k ≤ l1.length ∧ k ≤ 12 ∧ Ext w wr ∧ Hid (L4 w.heap.size wr va b vc d A ((l1.take k).map qND2) A ((l1.take k).map qND2))) (fun _ _ i _ => 12 - (intOf i).toNat)
        case atStart => exact ⟨0, rfl, Nat.zero_le _, Nat.zero_le _, b03, by rw [List.take_zero]; exact hL⟩
        case round =>
          clear hL b03
          obtain ⟨k, rfl, hk, hk2, hx, hL⟩ := hrel
          go_upto_region 10 with (fail)
          go_cut [55] (fun s29 wx => s29 = .bool (decide (k < l1.length ∧ k < 12)) ∧ wx = wr)
          case first =>
            by_cases hlt : k < l1.length
            · by_cases h12 : k < 12
              · go_wp2_with fail
                go_meet
                exact ⟨by simp [hlt, h12]; omega, rfl⟩
              · go_wp2_with fail
                go_meet
                exact ⟨by simp [h12]; omega, rfl⟩
            · go_wp2_with fail
              go_meet
              exact ⟨by simp [hlt], rfl⟩
          case rest =>
            obtain ⟨rfl, rfl⟩ := hcut
            by_cases hgo : k < l1.length ∧ k < 12
            · rw [decide_eq_true hgo]
              obtain ⟨b, off, cs, rfl, hcl, hT, hc⟩ := HV1.out.at (by decide) k hgo.1
              obtain ⟨x0, x1, x2, x3, x4, x5, rfl⟩ := cells_ND hT
              have HSN := Lib.hid (take_snoc2 qND2 hgo.1)
              have HTT := Lib.hid (RdNDp.ext hT hx)
              have HSS := Lib.hid (HS1.out l1[k] (List.getElem_mem hgo.1))
              have HKL : Hid (((l1.take k).map qND2).length ≤ 34) := by show _ ≤ _; simp; omega
              have e0 := Ext.cell hx (hc 0 (by decide))
              have e1 := Ext.cell hx (hc 1 (by decide))
              have e2 := Ext.cell hx (hc 2 (by decide))
              have e3 := Ext.cell hx (hc 3 (by decide))
              have e4 := Ext.cell hx (hc 4 (by decide))
              have e5 := Ext.cell hx (hc 5 (by decide))
              simp only [List.getElem?_cons_zero, List.getElem?_cons_succ, Nat.add_zero] at e0 e1 e2 e3 e4 e5
              generalize l1[k] = p at *
              clear hT hc hcl
              go_wp2_with fail
              refine (both07o HTT.out HSS.out.1.1 HSS.out.1.2 HSS.out.2.1 HSS.out.2.2).mono ?_
              rintro e w1 ⟨_, rfl, b1, _, _, rfl, o1, o2⟩
              clear e0 e1 e2 e3 e4 e5
              obtain ⟨s0, a1, n1, c1, a2, n2, c2, s3, a4, n4, c4, a5, n5, c5, rfl, O1⟩ := o1.op
              obtain ⟨t0, d1, m1, f1, d2, m2, f2, t3, d4, m4, f4, d5, m5, f5, rfl, O2⟩ := o2.op
              clear o1 o2
              obtain ⟨w2, hw2, b2, k1, k2, -, -, -⟩ := bx2 w1 [.bool s0, .slice a1 n1 c1, .slice a2 n2 c2, .bool s3, .slice a4 n4 c4, .slice a5 n5 c5] [.bool t0, .slice d1 m1 f1, .slice d2 m2 f2, .bool t3, .slice d4 m4 f4, .slice d5 m5 f5] 30 35
              have K2 := Lib.hid k2
              have HW := Lib.hid hw2
              have SZ2 := Lib.hid (World.block_lt_of_cell? w2 _ k2.c6.1)
              have h2 := Lib.hid (hL.out.ext (Ext.trans b1 b2))
              have b02 := Ext.trans hx (Ext.trans b1 b2)
              obtain ⟨e0, e1, e2, e3, e4, e5⟩ := k1.c6
              clear hw2 k1 k2
              go_upto_region 13 with (fail)
              rw [← HW.out]
              clear HW
              go_upto_region 14 with (at_builtin; refine append_rowW (y := qND2 p) et7D (kdD (e := 148) (by decide)) (by rfl) _ _ (by rfl) w.heap.size (by rfl) _ (by rfl) h2.out.swap.ha rfl (O1.out.ext b2) (Below.size b02) (by have := HKL.out; omega) (by unfold maxLen; have := HKL.out; omega) ?_; intro v8 w8 o8 b8 g8 h8)
              clear e0 e1 e2 e3 e4 e5
              have X8 : Hid (Ext w2 (w2.alloc (.cells #[.bool s0, .slice a1 n1 c1, .slice a2 n2 c2, .bool s3, .slice a4 n4 c4, .slice a5 n5 c5] 30))) := Ext.alloc _ _
              have L7 := Lib.hid (h2.out.swap.ext X8.out)
              have L8 := Lib.hid (L7.out.pushD o8 g8 h8)
              have Q8 : Hid (OwnE 4 0 w8 (.agg #[.bool t0, .slice d1 m1 f1, .slice d2 m2 f2, .bool t3, .slice d4 m4 f4, .slice d5 m5 f5]) (qN p.1) (qN p.2)) := by
                obtain ⟨n, xs, hE⟩ := L7.out.ha.own
                exact (kdE (e := 4) (e' := 30) (by decide)).grown (a := (qN p.1, qN p.2)) (O2.out.ext (Ext.trans b2 X8.out)) hE g8
              have b08 := Lib.hid (Below.trans b02 b8)
              obtain ⟨e0, e1, e2, e3, e4, e5⟩ := ((K2.out.ext X8.out).grow g8 (fun h => by have h1 := (hL.out.swap.ha.lt _ h).2; have h3 := Below.size b1; omega)).c6
              clear o8 g8 h8 b8 h2
              go_wp2_with (at_builtin; refine append_rowW (y := qND2 p) et7E (kdE (e := 4) (by decide)) (by rfl) _ _ (by rfl) w.heap.size (by rfl) _ (by rfl) L8.out.hc rfl Q8.out (Below.size b08.out) (by have := HKL.out; omega) (by unfold maxLen; have := HKL.out; omega) ?_; intro v9 w9 o9 b9 g9 h9)
              have X9 : Hid (Ext w8 (w8.alloc (.cells #[.bool t0, .slice d1 m1 f1, .slice d2 m2 f2, .bool t3, .slice d4 m4 f4, .slice d5 m5 f5] 35))) := Ext.alloc _ _
              have L9 := Lib.hid ((L8.out.ext X9.out).pushE o9 g9 h9)
              clear e0 e1 e2 e3 e4 e5 o9 g9 h9
              go_roundw
              case rel => exact ⟨k + 1, by go_num, by omega, by omega, Below.trans b08.out b9, by rw [HSN.out]; exact L9.out.swap⟩
              case measure => simp [intOf] <;> omega
            · rw [decide_eq_false hgo]
              have HT12 := Lib.hid (take12 hgo hk hk2)
              clear hgo hk2 hk
              rw [HT12.out] at hL
              go_wp2_with fail
              refine bodyPost_ret (v := .tuple #[va, u9, vc, u11]) (by simp [results, Try.results57, go_sem]) rfl ?_
              exact hR.out _ _ (Gives.mk hx ⟨_, _, _, _, rfl, hL.out⟩)
end Go.Proofs.Ytpeeacdnjbcmiaa
