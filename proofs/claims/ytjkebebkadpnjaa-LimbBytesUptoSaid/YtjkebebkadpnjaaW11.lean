/- attestref02: Shl, Shr, Word, Low, Same, Copy -/
import Derived.Test.YtjkebebkadpnjaaW10
namespace Go.Proofs.Ytjkebebkadpnjaa
open Go.RowKit Go.Att

theorem Copy_any {w : World} {v : Value} {xs : List Nat} (hv : RdL w v xs) (hl : xs.length ≤ 17592186044416) :
    Calls Try.prog 11 #[v] w (Gives w fun v' w' => OwnL 52 w.heap.size w' v' xs) := by
  refine via fun R hR => ?_
  have HV := Lib.hid hv
  clear hv
  go_enter Try.func11, Try.ntmps11
  go_wp2_with (at_builtin; refine append_rd et32 rfl _ _ rfl w.heap.size rfl (World.ownsRow_lit w #[] 0 (Nat.le_refl _) (Nat.zero_le _) rfl) rfl (RdV.ext HV.out.1 (Ext.alloc _ _)) (ints_one _ _) (by omega) (by unfold maxLen; omega) (by simp) ?_)
  intro v2 w2 ho2 hb2 _
  have HO2 := Lib.hid ho2
  clear ho2
  go_wp2
  exact hR.out _ _ (Gives.mk (Below.trans (Ext.alloc _ _) hb2) ⟨HO2.out, HV.out.2⟩)

theorem Same_yes {w : World} {va vb : Value} {xa xb : List Nat} (ha : RdL w va xa) (hb : RdL w vb xb) (h : xa = xb) :
    Calls Try.prog 13 #[va, vb] w (Gives w fun v' _ => v' = .bool true) := by
  subst h
  refine via fun R hR => ?_
  obtain ⟨a, ca, rfl, hla, hma, _, hca⟩ := ha.1.shape
  obtain ⟨b, cb, rfl, hlb, hmb, _, hcb⟩ := hb.1.shape
  have HCA := Lib.hid hca
  have HCB := Lib.hid hcb
  clear hca hcb ha hb
  unfold maxLen at hma hmb
  go_enter Try.func13, Try.ntmps13
  go_wp2
  go_loopw [13] (fun i wr => ∃ k : Nat, i = .int .i64 k ∧ k ≤ xa.length ∧ Ext w wr) (fun i _ => xa.length - (intOf i).toNat)
  case atStart => exact ⟨0, rfl, Nat.zero_le _, Ext.refl _⟩
  case round =>
    obtain ⟨k, rfl, hk, hbel⟩ := hrel
    by_cases hlt : k < xa.length
    · obtain ⟨ba, oa, rfl, hca⟩ := HCA.out k hlt
      obtain ⟨bb, ob, rfl, hcb⟩ := HCB.out k hlt
      have hca' := Ext.cell hbel hca
      have hcb' := Ext.cell hbel hcb
      clear hca hcb
      go_wp2
      go_region
      all_goals
        go_wp2
        go_roundw
        case rel => exact ⟨k + 1, by go_num, by omega, hbel.drew⟩
        case measure => simp [intOf] <;> omega
    · go_wp2
      all_goals exact hR.out _ _ (Gives.mk hbel rfl)

theorem rShl_any {w : World} {va : Value} {bs : List Bool} (n : Nat) (hn : n ≤ 100000) (ha : RdB w va bs) (hl : bs.length ≤ 1099511627776) :
    Calls Try.prog 28 #[va, .int .i64 n] w (Gives w fun v' w' => OwnB 4 w.heap.size w' v' (bitsOf (bval bs * 2 ^ n))) := by
  refine via fun R hR => ?_
  have HA := Lib.hid ha
  clear ha
  go_enter Try.func28, Try.ntmps28
  go_wp2_with (at_make; refine make_bools etB rfl _ _ rfl _ _ n rfl rfl (by omega) (by unfold maxLen; omega) ?_)
  intro w1 ho hext
  have HO := Lib.hid ho
  have hsz := hext.size
  clear ho
  go_wp2_with (at_builtin; refine append_rd etB rfl _ _ rfl w.heap.size rfl HO.out rfl (RdV.ext HA.out hext) (bools_one _) (by rw [len_nays]; omega) (by rw [len_nays]; unfold maxLen; omega) hsz ?_)
  intro v2 w2 ho2 hb2 _
  have ho3 : Hid (OwnB 4 w.heap.size w2 v2 (nays n ++ bs)) := by
    show OwnB _ _ _ _ _
    unfold OwnB
    rw [bools_app, List.length_append]
    exact ho2
  have hb3 := Below.trans hext hb2
  clear ho2
  go_wp2_with (go_at_call 25; refine (CutOwn ho3.out).mono ?_; rintro e w3 ⟨v3, rfl, rfl, ho4⟩)
  have HO4 := Lib.hid ho4
  clear ho4
  go_wp2
  have ho5 := HO4.out
  rw [bval_shl] at ho5
  exact hR.out _ _ (Gives.mk hb3 ho5)

theorem rShr_any {w : World} {va : Value} (x n : Nat) (hn : n ≤ 100000) (ha : RdB w va (bitsOf x)) :
    Calls Try.prog 29 #[va, .int .i64 n] w (Gives w fun v' w' => RdB w' v' (bitsOf (x / 2 ^ n))) := by
  refine via fun R hR => ?_
  have HA := Lib.hid ha
  have HS := Lib.hid (bits_shr x n)
  obtain ⟨a, ca, rfl, hla, hma, _, hca⟩ := ha.shape
  have HCA := Lib.hid hca
  clear hca ha
  unfold maxLen at hma
  by_cases hbig : (bitsOf x).length ≤ n
  · go_enter Try.func29, Try.ntmps29
    go_wp2
    exact hR.out _ _ (Gives.mk (Ext.refl _) (by rw [← HS.out, List.drop_of_length_le hbig]; exact RdB.nil _))
  · obtain ⟨ba, oa, rfl, hc⟩ := HCA.out n (by omega)
    clear hc
    go_enter Try.func29, Try.ntmps29
    go_wp2
    exact hR.out _ _ (Gives.mk (Ext.refl _) (by rw [← HS.out]; exact RdB.drop HA.out rfl (by omega) rfl))

theorem rWord_any {w : World} (u : Nat) (hu : u ≤ 18446744073709551615) :
    Calls Try.prog 15 #[.int .u64 u] w (Gives w fun v' w' => OwnB 4 w.heap.size w' v' (bitsOf u)) := by
  refine via fun R hR => ?_
  have HU := Lib.hid ((bitsOf_len u 64).2 (by omega))
  go_enter Try.func15, Try.ntmps15
  go_wp2
  go_loopw [0, 3] (fun n out wr => ∃ (m : Nat) (o : List Bool), n = .int .u64 m ∧ m ≤ u ∧ Hid (OwnB 4 w.heap.size wr out o) ∧ Hid (o ++ bitsOf m = bitsOf u) ∧ Ext w wr) (fun n _ _ => (intOf n).toNat)
  case atStart => exact ⟨u, [], rfl, Nat.le_refl _, World.ownsRow_lit w #[] 0 (Nat.le_refl _) (Nat.zero_le _) rfl, by simp [Hid], Ext.alloc _ _⟩
  case round =>
    obtain ⟨m, o, rfl, hm, hO, hinv, hbel⟩ := hrel
    have hsz := hbel.size
    have hol : o.length ≤ 64 := by
      have h1 := congrArg List.length hinv.out
      have h2 := HU.out
      rw [List.length_append] at h1
      omega
    by_cases h0 : m = 0
    · have h0' : m ≤ 0 := by omega
      have E : Hid (o = bitsOf u) := by
        have h := hinv.out
        rw [h0, bitsOf_zero, List.append_nil] at h
        exact h
      clear h0
      go_wp2
      exact hR.out _ _ (Gives.mk hbel (by rw [← E.out]; exact hO.out))
    · have hpos : 0 < m := by omega
      have HN := Lib.hid (word_step m o u hinv.out h0)
      clear h0
      go_wp2_with (at_builtin; refine append_rd etB rfl _ _ rfl w.heap.size rfl (Ext.owns (Ext.alloc _ _) hO.out) rfl (RdV.lit _ _ _ _ 1 rfl (by unfold maxLen; omega)) (by intro u hu; simp at hu; subst hu; rfl) (by omega) (by unfold maxLen; omega) (by simp; omega) ?_)
      intro v2 w2 ho2 hb2 _
      have HO2 := Lib.hid ho2
      clear ho2
      go_wp2
      go_roundw
      case rel => exact ⟨m / 2, o ++ [m % 2 == 1], by go_num, by omega, OwnB.snoc HO2.out rfl (bit_dec m), HN.out, Below.trans (Below.alloc hbel hsz _) hb2⟩
      case measure => simp [intOf] <;> omega

theorem rLow_any {w : World} {va : Value} {bs : List Bool} (ha : RdB w va bs) :
    Calls Try.prog 16 #[va] w (Gives w fun v' _ => v' = .int .u64 ((bval bs % W64 : Nat) : Int)) := by
  refine via fun R hR => ?_
  obtain ⟨a, ca, rfl, hla, hma, _, hca⟩ := ha.shape
  have HC := Lib.hid hca
  clear hca ha
  unfold maxLen at hma
  obtain ⟨e, he⟩ : ∃ e, e = min bs.length 64 := ⟨_, rfl⟩
  have he1 : (min (bs.length : Int) 64 : Int) = e := by omega
  have he2 : e ≤ bs.length := by omega
  have he3 : e ≤ 64 := by omega
  have HE := Lib.hid he
  clear he
  go_enter Try.func16, Try.ntmps16
  go_wp2
  clear he1
  go_loop [3, 4] (fun w j => ∃ (m ww : Nat), m ≤ e ∧ j = .int .i64 ((m : Int) - 1) ∧ w = .int .u64 ww ∧ ww ≤ 18446744073709551615 ∧ Hid (ww = seg bs m e)) (fun _ j => (intOf j + 1).toNat)
  case atStart => exact ⟨e, 0, Nat.le_refl _, rfl, rfl, by omega, (seg_top bs e).symm⟩
  case round =>
    obtain ⟨m, ww, hm2, rfl, rfl, hww, hseg⟩ := hrel
    by_cases hlt2 : 0 < m
    · obtain ⟨j, rfl⟩ : ∃ j, m = j + 1 := ⟨m - 1, by omega⟩
      obtain ⟨ba, oa, rfl, hc⟩ := HC.out j (by omega)
      have hsd := seg_down bs j e (by omega) he2
      have hf := seg_fit63 he2 he3 hlt2
      rw [← hseg.out] at hsd hf
      cases hb : nthB bs j
      · rw [hb] at hc hsd
        have HSD : Hid (2 * ww = seg bs j e) := by show _ = _; rw [hsd]; rfl
        clear hsd hb
        go_wp2
        go_round
        case rel => exact ⟨j, 2 * ww, by omega, by go_num, by go_num, by omega, HSD.out⟩
        case measure => simp [intOf] <;> omega
      · rw [hb] at hc hsd
        have HSD : Hid (2 * ww + 1 = seg bs j e) := by show _ = _; rw [hsd]; rfl
        clear hsd hb
        go_wp2
        go_round
        case rel => exact ⟨j, 2 * ww + 1, by omega, by go_num, by go_num, by omega, HSD.out⟩
        case measure => simp [intOf] <;> omega
    · obtain rfl : m = 0 := by omega
      have E : Hid (ww = bval bs % W64) := by
        show _ = _
        rw [hseg.out, seg_low HE.out]; rfl
      go_wp2
      exact hR.out _ _ (Gives.mk (Ext.refl _) (by rw [← E.out]))
end Go.Proofs.Ytjkebebkadpnjaa
