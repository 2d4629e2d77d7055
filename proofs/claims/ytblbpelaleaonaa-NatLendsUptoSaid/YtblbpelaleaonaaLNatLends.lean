/- NatLends: no call changes the lists that it is given, and answers share no memory. Conditions: the arguments hold together at most 1048576 values (the second form, Upto). -/
import Derived.Test.YtblbpelaleaonaaFrame
import Derived.Test.YtblbpelaleaonaaPAwake03
import Derived.Test.YtblbpelaleaonaaPNatGcd
import Derived.Test.YtblbpelaleaonaaNumM
import Derived.Test.YtblbpelaleaonaaLend
namespace Go.Proofs.Ytblbpelaleaonaa.natLends
open Go.ChangeShapes Go.WideShapes Go.ChangeAt Go.RowKit Go.Att

theorem divmod_own {w : World} {va vb : Value} {xa xb : List Nat} (ha : RdL w va xa) (hb : RdL w vb xb) (hna : xa.length ≤ 549755813888) (hnb : xb.length ≤ 549755813888) :
    Calls Try.prog 17 #[va, vb] w (Gives w fun v' w' => ∃ q r y xs ys, v' = .tuple #[q, r, .bool y] ∧ OwnL 32 w.heap.size w' q xs ∧ OwnL 32 w.heap.size w' r ys) := by
  by_cases h : nv xb = 0
  · refine (divmod_no ha hb hna hnb h).mono ?_
    rintro e w' ⟨_, rfl, b, rfl⟩
    exact ⟨_, rfl, b, _, _, _, [], [], rfl, ⟨OwnI.nil _ _ _ _, Fit.nil _⟩, OwnI.nil _ _ _ _, Fit.nil _⟩
  · refine (divmod_any ha hb hna hnb h).mono ?_
    rintro e w' ⟨_, rfl, b, q, r, rfl, o, p⟩
    exact ⟨_, rfl, b, _, _, _, _, _, rfl, o, p⟩

set_option maxRecDepth 100000 in
set_option maxHeartbeats 4000000 in
theorem walk {w : World} {va vb : Value} {xa xb : List Nat} (ha : RdL w va xa) (hla : xa.length ≤ 1048576) (hb : RdL w vb xb) (hlb : xb.length ≤ 1048576) :
    Calls Try.prog 7 #[va, vb] w (Gives w fun v' _ => v' = .bool true) := by
  refine via fun R hR => ?_
  have HA := Lib.hid ha
  have HB := Lib.hid hb
  have LA := Nat.le_trans (limbs_len_le ha.2) hla
  have LB := Nat.le_trans (limbs_len_le hb.2) hlb
  have LAB := Lib.hid (limbs_mul LA LB)
  clear ha hb LA LB
  go_enter Try.func7, Try.ntmps7
  go_wp2_with fail
  refine (Copy_any HA.out (by omega)).mono ?_
  rintro e w1 ⟨v1, rfl, b1, o1⟩
  have O1 := Lib.hid o1
  clear o1
  go_wp2_with fail
  refine (Copy_any (HB.out.ext b1) (by omega)).mono ?_
  rintro e w2 ⟨v2, rfl, b2, o2⟩
  have O2 := Lib.hid o2
  clear o2
  go_wp2_with fail
  refine (mul_any (O1.out.rd.ext b2) O2.out.rd (by omega) (by omega)).mono ?_
  rintro e w3 ⟨v3, rfl, b3, o3⟩
  have O3 := Lib.hid o3
  clear o3
  go_wp2_with fail
  refine (divmod_own (O1.out.rd.ext (Ext.trans b2 b3)) (O2.out.rd.ext b3) (by omega) (by omega)).mono ?_
  rintro e w4 ⟨_, rfl, b4, q4, r4, t4, x4, y4, rfl, o4, p4⟩
  have O4 := Lib.hid o4
  have P4 := Lib.hid p4
  clear o4 p4
  go_wp2_with fail
  refine (gcd_any (O1.out.rd.ext (Ext.trans b2 (Ext.trans b3 b4))) (O2.out.rd.ext (Ext.trans b3 b4)) (by omega) (by omega)).mono ?_
  rintro e w5 ⟨v5, rfl, b5, o5⟩
  have O5 := Lib.hid o5
  clear o5
  go_wp2_with fail
  refine (lcm_any (O1.out.rd.ext (Ext.trans b2 (Ext.trans b3 (Ext.trans b4 b5)))) (O2.out.rd.ext (Ext.trans b3 (Ext.trans b4 b5))) (by omega) (by omega)).mono ?_
  rintro e w6 ⟨v6, rfl, b6, o6⟩
  have O6 := Lib.hid o6
  clear o6
  generalize limbs (Nat.gcd (nv xa) (nv xb)) = x5 at *
  generalize limbs (nv xa / Nat.gcd (nv xa) (nv xb) * nv xb) = x6 at *
  go_wp2_with fail
  refine (awake03).mono ?_
  rintro e w7 ⟨_, rfl, b7, rfl⟩
  go_wp2_with fail
  refine (Same_yes (O1.out.rd.ext (Ext.trans b2 (Ext.trans b3 (Ext.trans b4 (Ext.trans b5 (Ext.trans b6 b7)))))) (HA.out.ext (Ext.trans b1 (Ext.trans b2 (Ext.trans b3 (Ext.trans b4 (Ext.trans b5 (Ext.trans b6 b7))))))) rfl).mono ?_
  rintro e w8 ⟨_, rfl, b8, rfl⟩
  go_wp2_with fail
  refine (Same_yes (O2.out.rd.ext (Ext.trans b3 (Ext.trans b4 (Ext.trans b5 (Ext.trans b6 (Ext.trans b7 b8)))))) (HB.out.ext (Ext.trans b1 (Ext.trans b2 (Ext.trans b3 (Ext.trans b4 (Ext.trans b5 (Ext.trans b6 (Ext.trans b7 b8)))))))) rfl).mono ?_
  rintro e w9 ⟨_, rfl, b9, rfl⟩
  go_wp2_with fail
  refine (Copy_any (O3.out.rd.ext (Ext.trans b4 (Ext.trans b5 (Ext.trans b6 (Ext.trans b7 (Ext.trans b8 b9)))))) (by have := LAB.out; omega)).mono ?_
  rintro e w10 ⟨v10, rfl, b10, o10⟩
  have O10 := Lib.hid o10
  clear o10
  have z34 := b4.size
  have z45 := b5.size
  have z56 := b6.size
  have z69 := ((Ext.trans b7 (Ext.trans b8 b9)) : Ext w6 w9).size
  have z910 := b10.size
  have z12 := b2.size
  have z23 := b3.size
  have z01 := b1.size
  obtain ⟨a4, c4, rfl, _, _, _, _⟩ := O4.out.rd.1.shape
  obtain ⟨e4, f4, rfl, _, _, _, _⟩ := P4.out.rd.1.shape
  obtain ⟨a5, c5, rfl, _, _, _, _⟩ := O5.out.rd.1.shape
  obtain ⟨a6, c6, rfl, _, _, _, _⟩ := O6.out.rd.1.shape
  have M0 : Mine w3.heap.size w9.heap.size (w10.alloc (.cells #[(.slice a4 x4.length c4), (.slice e4 y4.length f4), (.slice a5 x5.length c5), (.slice a6 x6.length c6)] 22)) (.slice a4 x4.length c4) x4.length := (Mine.of_own (C := w9.heap.size) O4.out.1 (by omega)).ext (Ext.trans (Ext.trans b5 (Ext.trans b6 (Ext.trans b7 (Ext.trans b8 (Ext.trans b9 b10))))) (Ext.alloc _ _))
  have M1 : Mine w3.heap.size w9.heap.size (w10.alloc (.cells #[(.slice a4 x4.length c4), (.slice e4 y4.length f4), (.slice a5 x5.length c5), (.slice a6 x6.length c6)] 22)) (.slice e4 y4.length f4) y4.length := (Mine.of_own (C := w9.heap.size) P4.out.1 (by omega)).ext (Ext.trans (Ext.trans b5 (Ext.trans b6 (Ext.trans b7 (Ext.trans b8 (Ext.trans b9 b10))))) (Ext.alloc _ _))
  have M2 : Mine w3.heap.size w9.heap.size (w10.alloc (.cells #[(.slice a4 x4.length c4), (.slice e4 y4.length f4), (.slice a5 x5.length c5), (.slice a6 x6.length c6)] 22)) (.slice a5 x5.length c5) x5.length := ((Mine.of_own (C := w9.heap.size) O5.out.1 (by omega)).mono (by omega) (Nat.le_refl _)).ext (Ext.trans (Ext.trans b6 (Ext.trans b7 (Ext.trans b8 (Ext.trans b9 b10)))) (Ext.alloc _ _))
  have M3 : Mine w3.heap.size w9.heap.size (w10.alloc (.cells #[(.slice a4 x4.length c4), (.slice e4 y4.length f4), (.slice a5 x5.length c5), (.slice a6 x6.length c6)] 22)) (.slice a6 x6.length c6) x6.length := ((Mine.of_own (C := w9.heap.size) O6.out.1 (by omega)).mono (by omega) (Nat.le_refl _)).ext (Ext.trans (Ext.trans b7 (Ext.trans b8 (Ext.trans b9 b10))) (Ext.alloc _ _))
  have HM := Lib.hid (And.intro M0 (And.intro M1 (And.intro M2 M3)))
  have EW : Hid (Ext w (w10.alloc (.cells #[(.slice a4 x4.length c4), (.slice e4 y4.length f4), (.slice a5 x5.length c5), (.slice a6 x6.length c6)] 22))) := Ext.trans (Ext.trans b1 (Ext.trans b2 (Ext.trans b3 (Ext.trans b4 (Ext.trans b5 (Ext.trans b6 (Ext.trans b7 (Ext.trans b8 (Ext.trans b9 b10))))))))) (Ext.alloc _ _)
  have EW1 : Hid (Ext w1 (w10.alloc (.cells #[(.slice a4 x4.length c4), (.slice e4 y4.length f4), (.slice a5 x5.length c5), (.slice a6 x6.length c6)] 22))) := Ext.trans (Ext.trans b2 (Ext.trans b3 (Ext.trans b4 (Ext.trans b5 (Ext.trans b6 (Ext.trans b7 (Ext.trans b8 (Ext.trans b9 b10)))))))) (Ext.alloc _ _)
  have EW2 : Hid (Ext w2 (w10.alloc (.cells #[(.slice a4 x4.length c4), (.slice e4 y4.length f4), (.slice a5 x5.length c5), (.slice a6 x6.length c6)] 22))) := Ext.trans (Ext.trans b3 (Ext.trans b4 (Ext.trans b5 (Ext.trans b6 (Ext.trans b7 (Ext.trans b8 (Ext.trans b9 b10))))))) (Ext.alloc _ _)
  have EW3 : Hid (Ext w3 (w10.alloc (.cells #[(.slice a4 x4.length c4), (.slice e4 y4.length f4), (.slice a5 x5.length c5), (.slice a6 x6.length c6)] 22))) := Ext.trans (Ext.trans b4 (Ext.trans b5 (Ext.trans b6 (Ext.trans b7 (Ext.trans b8 (Ext.trans b9 b10)))))) (Ext.alloc _ _)
  have ET : Hid (OwnL 32 w9.heap.size (w10.alloc (.cells #[(.slice a4 x4.length c4), (.slice e4 y4.length f4), (.slice a5 x5.length c5), (.slice a6 x6.length c6)] 22)) v10 (limbs (nv xa * nv xb))) := O10.out.ext (Ext.alloc _ _)
  have HL0 : Hid (∀ k, k < 4 → (w10.alloc (.cells #[(.slice a4 x4.length c4), (.slice e4 y4.length f4), (.slice a5 x5.length c5), (.slice a6 x6.length c6)] 22)).cell? ⟨w10.heap.size, k, none⟩ = #[(.slice a4 x4.length c4), (.slice e4 y4.length f4), (.slice a5 x5.length c5), (.slice a6 x6.length c6)][k]?) := by
    intro k hk
    rw [cell_of_row _ _ k #[(.slice a4 x4.length c4), (.slice e4 y4.length f4), (.slice a5 x5.length c5), (.slice a6 x6.length c6)] 22 (0, 0) (_root_.Go.heap_alloc_new w10 _)]
  clear M0 M1 M2 M3 O4 P4 O5 O6 O10 b1 b2 b3 b4 b5 b6 b7 b8 b9 b10
  go_wp2_with fail
  generalize hW0 : w10.alloc (.cells #[(.slice a4 x4.length c4), (.slice e4 y4.length f4), (.slice a5 x5.length c5), (.slice a6 x6.length c6)] 22) = W0 at *
  generalize hG : w10.heap.size = GL at *
  clear hW0 hG
  go_loopw [59] (fun i wr => ∃ k : Nat, i = .int .i64 k ∧ k ≤ 4 ∧ Hid (Mine w3.heap.size w9.heap.size wr (.slice a4 x4.length c4) x4.length ∧ Mine w3.heap.size w9.heap.size wr (.slice e4 y4.length f4) y4.length ∧ Mine w3.heap.size w9.heap.size wr (.slice a5 x5.length c5) x5.length ∧ Mine w3.heap.size w9.heap.size wr (.slice a6 x6.length c6) x6.length) ∧ Besides w3.heap.size w9.heap.size W0 wr) (fun i _ => 4 - (intOf i).toNat)
  case atStart => exact ⟨0, rfl, by omega, HM.out, Besides.refl _ _ _⟩
  case round =>
    obtain ⟨k, rfl, hk, hM, hbes⟩ := hrel
    by_cases hlt : k < 4
    · have hcell0 : wr.cell? ⟨GL, k, none⟩ = #[(.slice a4 x4.length c4), (.slice e4 y4.length f4), (.slice a5 x5.length c5), (.slice a6 x6.length c6)][k]? := by
        rw [← HL0.out k hlt]
        exact World.cell?_of_block (w := W0) (hbes.block GL (by omega))
      obtain ⟨vk, nk, hcell, hmine⟩ : ∃ vk nk, wr.cell? ⟨GL, k, none⟩ = some vk ∧ Mine w3.heap.size w9.heap.size wr vk nk := by
        have hk4 : k = 0 ∨ k = 1 ∨ k = 2 ∨ k = 3 := by omega
        rcases hk4 with rfl | rfl | rfl | rfl
        · exact ⟨_, _, hcell0, hM.out.1⟩
        · exact ⟨_, _, hcell0, hM.out.2.1⟩
        · exact ⟨_, _, hcell0, hM.out.2.2.1⟩
        · exact ⟨_, _, hcell0, hM.out.2.2.2⟩
      clear hcell0
      have hmine0 := hmine
      obtain ⟨ak, ck, rfl, hnk, hck, _⟩ := hmine
      have HK := Lib.hid hmine0
      clear hmine0
      unfold maxLen at hck
      go_wp2_with fail
      clear hcell
      obtain ⟨wo, rfl⟩ : ∃ wo : World, wo = wr := ⟨_, rfl⟩
      go_loopw [65] (fun i wr => ∃ j : Nat, i = .int .i64 j ∧ j ≤ nk ∧ Hid (Mine w3.heap.size w9.heap.size wr (.slice ak nk ck) nk) ∧ Hid (Mine w3.heap.size w9.heap.size wr (.slice a4 x4.length c4) x4.length ∧ Mine w3.heap.size w9.heap.size wr (.slice e4 y4.length f4) y4.length ∧ Mine w3.heap.size w9.heap.size wr (.slice a5 x5.length c5) x5.length ∧ Mine w3.heap.size w9.heap.size wr (.slice a6 x6.length c6) x6.length) ∧ Besides w3.heap.size w9.heap.size W0 wr) (fun i _ => nk - (intOf i).toNat)
      case atStart => exact ⟨0, rfl, Nat.zero_le _, HK.out, hM.out, hbes⟩
      case round =>
        obtain ⟨j, rfl, hj, hK, hM2, hbes2⟩ := hrel
        clear hbes
        by_cases hlt2 : j < nk
        · have hK0 := hK.out
          obtain ⟨a2, c2, hv2, _, _, h0 | ⟨g2, ha2, hB2, hC2, hr2⟩⟩ := hK0
          · omega
          simp only [Value.slice.injEq] at hv2
          obtain ⟨rfl, _, rfl⟩ := hv2
          subst ha2
          obtain ⟨u2, hcu⟩ := hr2.cell hlt2
          have hfu := hr2.free j
          clear hr2
          go_wp2_with fail
          go_roundw
          case rel => exact ⟨j + 1, by go_num, by omega, hK.out.set _ _ _, ⟨hM2.out.1.set _ _ _, hM2.out.2.1.set _ _ _, hM2.out.2.2.1.set _ _ _, hM2.out.2.2.2.set _ _ _⟩, hbes2.set hB2 hC2 _⟩
          case measure => simp [intOf] <;> omega
        · go_wp2_with fail
          go_roundw
          case rel => exact ⟨k + 1, by go_num, by omega, hM2.out, hbes2⟩
          case measure => simp [intOf] <;> omega
    · have hbl := hbes.below
      have F0 : Ext w wr := Below.trans EW.out (Below.mono hbl (by omega))
      have F1 : Ext w1 wr := Below.trans EW1.out (Below.mono hbl (by omega))
      have F2 : Ext w2 wr := Below.trans EW2.out (Below.mono hbl (by omega))
      have F3 : Ext w3 wr := Below.trans EW3.out hbl
      have FT : RdL wr v10 (limbs (nv xa * nv xb)) := ⟨(ET.out.1.besides hbes).rd, ET.out.2⟩
      have HFT := Lib.hid FT
      clear FT hbl
      go_wp2_with fail
      refine (Same_yes (O1.out.rd.ext F1) (HA.out.ext F0) rfl).mono ?_
      rintro e w16 ⟨_, rfl, b16, rfl⟩
      go_wp2_with fail
      refine (Same_yes (O2.out.rd.ext (Ext.trans F2 b16)) (HB.out.ext (Ext.trans F0 b16)) rfl).mono ?_
      rintro e w17 ⟨_, rfl, b17, rfl⟩
      go_wp2_with fail
      refine (Same_yes (O3.out.rd.ext (Ext.trans F3 (Ext.trans b16 b17))) (HFT.out.ext (Ext.trans b16 b17)) rfl).mono ?_
      rintro e w18 ⟨_, rfl, b18, rfl⟩
      go_wp2_with fail
      exact hR.out _ _ (Gives.mk (Ext.trans F0 (Ext.trans b16 (Ext.trans b17 b18))) rfl)
theorem own : ownKnob Try.prog.godebug = none := by kernel_rfl
theorem laidOut : laidOutB Try.prog = true := by kernel_rfl

set_option maxRecDepth 100000 in
theorem contract (H : Type) (enc : TypeId × Value → H) (W : World) (base : Nat) (args : Array Value) (ds gs : List (DataW H)) (before : List MemPlace)
    (hval : ∀ (j : Nat) t v, Try.f7.params[j]? = some t → args[j]? = some v → Value.okWide Try.prog W .any base t v)
    (hW : DataW.Whole enc Try.prog Try.f7.params.toList Rows.natLendsSpec.vars false W args.toList ds gs before) (hk : Rows.uptoSmall H (ds ++ gs) = true) :
    Calls Try.prog 7 args W fun e W' => ∃ v, e = .returned v ∧ Rows.natLendsSpec.post enc Try.prog Try.f7 false true false false W args v W' := by
  have hW' := hW
  obtain ⟨p, q, hA0, hV, rfl, hfz, hnd⟩ := hW
  have hA : DataW.TrodAll enc Try.prog W 0 (fun _ => true) true Try.f7.params.toList args.toList ds p := hA0
  rw [Try.params7] at hA hval
  obtain ⟨v0, vs0, d0, ds0, p0, q0, hargs, rfl, rfl, h0, r0⟩ := trodAll_cons hA
  obtain ⟨v1, vs1, d1, ds1, p1, q1, rfl, rfl, rfl, h1, r1⟩ := trodAll_cons r0
  obtain ⟨rfl, rfl, rfl⟩ := trodAll_nil r1
  obtain rfl : args = #[v0, v1] := by cases args; simp_all
  obtain ⟨rfl, rfl⟩ := trodVars_none hV
  have hb := bulk_small hk
  simp only [List.append_nil, bulk_cons, bulk_nil] at hb
  have k0 := h0
  have lt0 : ∀ x ∈ p0, x.block < W.heap.size := by obtain ⟨m, hm⟩ := k0; exact DataW.trod_lt m _ _ _ hm
  obtain ⟨x0, rd0, len0⟩ := open_u32s (hval 0 22 v0 rfl rfl) h0
  have k1 := h1
  have lt1 : ∀ x ∈ p1, x.block < W.heap.size := by obtain ⟨m, hm⟩ := k1; exact DataW.trod_lt m _ _ _ hm
  obtain ⟨x1, rd1, len1⟩ := open_u32s (hval 1 22 v1 rfl rfl) h1
  clear hA0
  refine (walk rd0 (by omega) rd1 (by omega)).mono fun e W' ⟨v, he, bel, hv⟩ => ?_
  subst he hv
  exact ⟨_, rfl, _, _, _, [], _, [], hW', trodAll_mk1 (shut_bool Try.underlying4 _), (trodAll_cons_mk (Below.trod laidOut (by kernel_rfl) (of_decide_eq_true (by kernel_rfl)) k0 bel lt0) (trodAll_cons_mk (Below.trod laidOut (by kernel_rfl) (of_decide_eq_true (by kernel_rfl)) k1 bel lt1) trodAll_mk0)), rfl, bel.frame _, fun h => by cases h⟩

set_option maxRecDepth 100000 in
theorem lifted (os : Os) (started : os.Started) (H : Type) (enc : TypeId × Value → H) (F : Stop.Interp) :
    ReturnsInHanded {} Try.checked os 7 .any ((Rows.OpenSpec.upto Rows.natLendsSpec).pre6 enc Try.prog Try.f7 Rows.natLendsUptoRow.domain false) (((Rows.OpenSpec.upto Rows.natLendsSpec).at F).post enc Try.prog Try.f7 false true false false) := by
  refine returnsInHanded_of_cond (C := Try.checked) (s := Rows.OpenSpec.upto Rows.natLendsSpec) (k := Rows.uptoSmall) rfl own started (by kernel_rfl) Try.func7
    (OpenSpec.witness (enc := enc) (C := Try.checked) (s := Rows.OpenSpec.upto Rows.natLendsSpec) (k := Rows.uptoSmall) rfl false ⟨#[], #[.slice none 0 0, .slice none 0 0], []⟩ 8 (by kernel_rfl) (by kernel_rfl) (by kernel_rfl)
      (x := ([.nil, .nil], [], [])) (by kernel_rfl) rfl (by kernel_rfl)) ?_
  intro W base args ds gs before hval hW _ hk _
  exact contract H enc W base args ds gs before hval hW hk

theorem proved : Rows.NatLendsUptoSaid :=
  OpenClaim.holds_of_cond 7 Try.f7 rfl rfl rfl rfl rfl rfl rfl ⟨rfl, rfl, rfl, rfl, rfl⟩ rfl rfl rfl rfl rfl (by kernel_rfl) Try.func7 (by kernel_rfl)
    (of_decide_eq_true (by kernel_rfl)) (by unfold Func.isWrapper; first | (rw [if_pos (by decide +kernel)]; kernel_rfl) | (rw [if_neg (by decide +kernel)]; exact ⟨rfl, rfl⟩))
    (fun os started H enc _ F => lifted os started H enc F)
#print axioms proved

end Go.Proofs.Ytblbpelaleaonaa.natLends
