/- attestref02: Cut, Of, To -/
import Derived.Test.YtjkebebkadpnjaaNum4
import Derived.Test.YtjkebebkadpnjaaW7
namespace Go.Proofs.Ytjkebebkadpnjaa
open Go.RowKit Go.Att

theorem etB : ElemT Try.prog 31 4 (.bool false) 1 1 := ElemT.mk' Try.underlying31 (by kernel_rfl) rfl (by decide)

theorem Cut_any {w : World} {v : Value} {bs : List Bool} (hv : RdB w v bs) :
    Calls Try.prog 25 #[v] w fun e w' => ∃ a n cap, v = .slice a bs.length cap ∧ e = .returned (.slice a n cap) ∧ w = w' ∧ n ≤ bs.length ∧ bs.take n = bitsOf (bval bs) := by
  refine via fun R hR => ?_
  have HV := Lib.hid hv
  obtain ⟨a, cap, rfl, hlc, hcm, _, hcell⟩ := hv.shape
  have HC := Lib.hid hcell
  clear hcell hv
  unfold maxLen at hcm
  go_enter Try.func25, Try.ntmps25
  go_wp2
  go_loop [3] (fun s => ∃ n : Nat, n ≤ bs.length ∧ Hid (∀ i, n ≤ i → i < bs.length → nthB bs i = false) ∧ s = .int .i64 n) (fun s => (intOf s).toNat)
  case atStart => exact ⟨bs.length, Nat.le_refl _, fun i h h' => by omega, rfl⟩
  case round =>
    obtain ⟨n, hn, hz, rfl⟩ := hrel
    have fin : (n = 0 ∨ nthB bs (n - 1) = true) → R (.returned (.slice a n cap)) w := by
      intro hl
      exact hR.out _ _ ⟨a, n, cap, rfl, rfl, rfl, hn, take_bits hn hz.out hl⟩
    have FIN := Lib.hid fin
    clear fin
    by_cases h0 : n = 0
    · have h0' : n ≤ 0 := by omega
      have H0 := Lib.hid h0
      clear h0
      go_wp2
      have h := FIN.out (.inl H0.out)
      rw [H0.out] at h
      exact h
    · obtain ⟨b, off, rfl, hc⟩ := HC.out (n - 1) (by omega)
      cases hb : nthB bs (n - 1)
      · rw [hb] at hc
        have HB := Lib.hid hb
        clear hb
        go_wp2
        go_round
        case rel =>
          refine ⟨n - 1, by omega, fun i h h' => ?_, by go_num⟩
          by_cases hi : i = n - 1
          · rw [hi]; exact HB.out
          · exact hz.out i (by omega) h'
        case measure => simp [intOf] <;> omega
      · rw [hb] at hc
        have HB := Lib.hid hb
        clear hb
        go_wp2
        all_goals exact FIN.out (.inr HB.out)

theorem CutOwn {w : World} {B : Nat} {v : Value} {bs : List Bool} (hv : OwnB 4 B w v bs) :
    Calls Try.prog 25 #[v] w fun e w' => ∃ v', e = .returned v' ∧ w = w' ∧ OwnB 4 B w' v' (bitsOf (bval bs)) := by
  refine (Cut_any hv.rd).mono ?_
  rintro e w' ⟨a, n, cap, rfl, rfl, rfl, hn, ht⟩
  refine ⟨_, rfl, rfl, ?_⟩
  rw [← ht]
  exact OwnB.take hv rfl hn

theorem Of_any {w : World} {v : Value} {xs : List Nat} (hv : RdL w v xs) (hl : xs.length ≤ 34359738368) :
    Calls Try.prog 17 #[v] w (Gives w fun v' w' => OwnB 4 w.heap.size w' v' (bitsOf (nv xs))) := by
  refine via fun R hR => ?_
  have HV := Lib.hid hv
  obtain ⟨a, cap, rfl, hlc, hcm, _, hcell⟩ := hv.1.shape
  have HC := Lib.hid hcell
  clear hcell hv
  unfold maxLen at hcm
  go_enter Try.func17, Try.ntmps17
  go_wp2
  go_loopw [3, 5, 6, 10] (fun b _ _ i wr => ∃ (k : Nat) (o : List Bool), i = .int .i64 k ∧ k ≤ xs.length ∧ o.length = 32 * k ∧ Hid (OwnB 4 w.heap.size wr b o) ∧ Hid (bval o = nv (xs.take k)) ∧ Ext w wr) (fun _ _ _ i _ => xs.length - (intOf i).toNat)
  case atStart => exact ⟨0, [], rfl, Nat.zero_le _, rfl, World.ownsRow_lit w #[] 0 (Nat.le_refl _) (Nat.zero_le _) rfl, by simp [Hid, nv, val, bval_nil], Ext.alloc _ _⟩
  case round =>
    obtain ⟨k, o, rfl, hk, hol, hO, hinv, hbel⟩ := hrel
    have hsz := hbel.size
    by_cases hlt : k < xs.length
    · obtain ⟨ba, oa, rfl, hc⟩ := HC.out k hlt
      have hc2 := Ext.cell hbel hc
      have FA := HV.out.2.nth32 k
      clear hc
      go_wp2
      obtain ⟨wo, rfl⟩ : ∃ wo : World, wo = wr := ⟨_, rfl⟩
      go_loopw [3, 5, 6] (fun b x i wr => ∃ (n : Nat) (o : List Bool) (ww : Nat), i = .int .i64 n ∧ n ≤ 32 ∧ o.length = 32 * k + n ∧ x = .int .u32 ww ∧ ww ≤ 4294967295 ∧ Hid (ww = nth xs k / 2 ^ n) ∧ Hid (OwnB 4 w.heap.size wr b o) ∧ Hid (bval o = nv (xs.take k) + 2 ^ (32 * k) * (nth xs k % 2 ^ n)) ∧ Ext w wr) (fun _ _ i _ => 32 - (intOf i).toNat)
      case atStart => exact ⟨0, o, nth xs k, rfl, by omega, by omega, rfl, FA, by simp [Hid], hO, by simp [Hid, Nat.mod_one]; exact hinv.out, hbel⟩
      case round =>
        obtain ⟨n, o2, ww, rfl, hn, hol2, rfl, hww, hw2, hO2, hinv2, hbel2⟩ := hrel
        have hsz2 := hbel2.size
        clear hbel hc2 hsz
        by_cases hlt2 : n < 32
        · go_wp2_with (at_builtin; refine append_rd etB rfl _ _ rfl w.heap.size rfl (Ext.owns (Ext.alloc _ _) hO2.out) rfl (RdV.lit _ _ _ _ 1 rfl (by unfold maxLen; omega)) (by intro u hu; simp at hu; subst hu; rfl) (by omega) (by unfold maxLen; omega) (by simp; omega) ?_)
          intro v2 w2 ho2 hb2 _
          have HO2 := Lib.hid ho2
          clear ho2
          go_wp2
          go_roundw
          case rel => exact ⟨n + 1, o2 ++ [ww % 2 == 1], ww / 2, by go_num, by omega, by simp; omega, by go_num, by omega, by rw [hw2.out, Nat.pow_succ, Nat.div_div_eq_div_mul]; rfl, OwnB.snoc HO2.out (by omega) (bit_dec ww), of_inner hol2 hinv2.out hw2.out, Below.trans (Below.alloc hbel2 hsz2 _) hb2⟩
          case measure => simp [intOf] <;> omega
        · go_wp2
          go_roundw
          case rel =>
            obtain rfl : n = 32 := by omega
            exact ⟨k + 1, o2, by go_num, by omega, by omega, hO2, by rw [← of_outer FA]; exact hinv2.out, hbel2⟩
          case measure => simp [intOf] <;> omega
    · have E : Hid (bval o = nv xs) := by
        show _ = _
        have h := hinv.out
        unfold nv at h
        rw [val_take_ge _ _ _ (by omega)] at h
        exact h
      go_wp2_with (go_at_call 25; refine (CutOwn hO.out).mono ?_; rintro e w3 ⟨v3, rfl, rfl, ho3⟩)
      have HO3 := Lib.hid ho3
      clear ho3
      go_wp2
      have ho4 := HO3.out
      rw [E.out] at ho4
      exact hR.out _ _ (Gives.mk hbel ho4)

theorem To_any {w : World} {v : Value} {bs : List Bool} (hv : RdB w v bs) (hl : bs.length ≤ 1099511627776) :
    Calls Try.prog 14 #[v] w (Gives w fun v' w' => OwnL 52 w.heap.size w' v' (limbs (bval bs))) := by
  refine via fun R hR => ?_
  have HV := Lib.hid hv
  obtain ⟨a, cap, rfl, hlc, hcm, _, hcell⟩ := hv.shape
  have HC := Lib.hid hcell
  clear hcell hv
  unfold maxLen at hcm
  go_enter Try.func14, Try.ntmps14
  go_wp2
  go_loopw [3, 4, 5, 6] (fun out i _ _ wr => ∃ (k : Nat) (o : List Nat), i = .int .i64 (32 * k : Nat) ∧ 32 * k ≤ bs.length + 31 ∧ o.length = k ∧ Hid (OwnL 52 w.heap.size wr out o) ∧ Hid (nv o = bval (bs.take (32 * k))) ∧ Ext w wr) (fun _ i _ _ _ => bs.length + 32 - (intOf i).toNat)
  case atStart => exact ⟨0, [], rfl, by omega, rfl, ⟨World.ownsRow_lit w #[] 0 (Nat.le_refl _) (Nat.zero_le _) rfl, Fit.nil _⟩, by simp [Hid, nv, val, bval_nil], Ext.alloc _ _⟩
  case round =>
    obtain ⟨k, o, rfl, hk, hol, hO, hinv, hbel⟩ := hrel
    have hsz := hbel.size
    by_cases hlt : 32 * k < bs.length
    · obtain ⟨e, he⟩ : ∃ e, e = min (32 * k + 32) bs.length := ⟨_, rfl⟩
      have he1 : (min (32 * (k : Int) + 32) bs.length : Int) = e := by omega
      have he2 : e ≤ bs.length := by omega
      have he3 : e ≤ 32 * k + 32 := by omega
      have he4 : 32 * k < e := by omega
      have HE := Lib.hid he
      clear he
      go_wp2
      obtain ⟨wo, rfl⟩ : ∃ wo : World, wo = wr := ⟨_, rfl⟩
      clear he1
      go_loop [5, 6] (fun w j => ∃ (m ww : Nat), 32 * k ≤ m ∧ m ≤ e ∧ j = .int .i64 ((m : Int) - 1) ∧ w = .int .u32 ww ∧ ww ≤ 4294967295 ∧ Hid (ww = seg bs m e)) (fun _ j => (intOf j + 1).toNat)
      case atStart => exact ⟨e, 0, by omega, Nat.le_refl _, rfl, rfl, by omega, (seg_top bs e).symm⟩
      case round =>
        obtain ⟨m, ww, hm1, hm2, rfl, rfl, hww, hseg⟩ := hrel
        by_cases hlt2 : 32 * k < m
        · obtain ⟨j, rfl⟩ : ∃ j, m = j + 1 := ⟨m - 1, by omega⟩
          obtain ⟨ba, oa, rfl, hc⟩ := HC.out j (by omega)
          have hc2 := Ext.cell hbel hc
          have hsd := seg_down bs j e (by omega) he2
          have hf := seg_fit2 he2 he3 hlt2
          rw [← hseg.out] at hsd hf
          clear hc
          cases hb : nthB bs j
          · rw [hb] at hc2 hsd
            have HSD : Hid (2 * ww = seg bs j e) := by show _ = _; rw [hsd]; rfl
            clear hsd hb
            go_wp2
            go_round
            case rel => exact ⟨j, 2 * ww, by omega, by omega, by go_num, by go_num, by omega, HSD.out⟩
            case measure => simp [intOf] <;> omega
          · rw [hb] at hc2 hsd
            have HSD : Hid (2 * ww + 1 = seg bs j e) := by show _ = _; rw [hsd]; rfl
            clear hsd hb
            go_wp2
            go_round
            case rel => exact ⟨j, 2 * ww + 1, by omega, by omega, by go_num, by go_num, by omega, HSD.out⟩
            case measure => simp [intOf] <;> omega
        · obtain rfl : m = 32 * k := by omega
          go_wp2_with (at_builtin; refine append_rd et32 rfl _ _ rfl w.heap.size rfl (Ext.owns (Ext.alloc _ _) hO.out.1) rfl (RdV.lit _ _ _ _ 1 rfl (by unfold maxLen; omega)) (by intro u hu; simp at hu; subst hu; rfl) (by omega) (by unfold maxLen; omega) (by simp; omega) ?_)
          intro v2 w2 ho2 hb2 _
          have HO2 := Lib.hid ho2
          clear ho2
          go_wp2
          go_roundw
          case rel =>
            exact ⟨k + 1, o ++ [ww], by go_num, by omega, by simp; omega, OwnL.snoc HO2.out (by omega) rfl hO.out.2 (by unfold W32; omega), by rw [hseg.out]; exact to_step hol hlt HE.out hinv.out, Below.trans (Below.alloc hbel hsz _) hb2⟩
          case measure => simp [intOf] <;> omega
    · obtain ⟨ab, cb, rfl, hlb, hmb, _, hcb⟩ := hO.out.1.rd.shape
      have HCB := Lib.hid hcb
      clear hcb
      unfold maxLen at hmb
      have E : Hid (nv o = bval bs) := by
        show _ = _
        have h := hinv.out
        rwa [bval_take_ge _ _ (by omega)] at h
      clear hol
      go_wp2
      obtain ⟨wo, rfl⟩ : ∃ wo : World, wo = wr := ⟨_, rfl⟩
      go_loop [7] (fun s => ∃ n : Nat, n ≤ o.length ∧ Hid (∀ i, n ≤ i → i < o.length → nth o i = 0) ∧ s = .int .i64 n) (fun s => (intOf s).toNat)
      case atStart => exact ⟨o.length, Nat.le_refl _, fun i h h' => by omega, rfl⟩
      case round =>
        obtain ⟨n, hn, hz, rfl⟩ := hrel
        have fin : (n = 0 ∨ nth o (n - 1) ≠ 0) → R (.returned (.slice ab n cb)) wo := by
          intro h
          refine hR.out _ _ (Gives.mk hbel ?_)
          have h1 := OwnI.take hO.out.1 rfl hn
          have h2 := take_digs W32_ge hO.out.2 hn hz.out h
          have h3 := E.out
          unfold nv at h3
          rw [h3] at h2
          unfold limbs
          rw [← h2]
          exact ⟨h1, hO.out.2.take n⟩
        have FIN := Lib.hid fin
        clear fin
        by_cases h0 : n = 0
        · have h0' : n ≤ 0 := by omega
          have H0 := Lib.hid h0
          clear h0
          go_wp2
          have h := FIN.out (.inl H0.out)
          rw [H0.out] at h
          exact h
        · obtain ⟨bb, ob, rfl, hc⟩ := HCB.out (n - 1) (by omega)
          by_cases hz1 : nth o (n - 1) = 0
          · rw [hz1] at hc
            have HZ2 := Lib.hid hz1
            clear hz1
            go_wp2
            go_round
            case rel =>
              refine ⟨n - 1, by omega, fun i h h' => ?_, by go_num⟩
              by_cases hi : i = n - 1
              · rw [hi]; exact HZ2.out
              · exact hz.out i (by omega) h'
            case measure => simp [intOf] <;> omega
          · have hb : ((nth o (n - 1) : Int) == 0) = false := by simpa using hz1
            have HZ2 := Lib.hid hz1
            clear hz1
            go_wp2
            all_goals exact FIN.out (.inr HZ2.out)
end Go.Proofs.Ytjkebebkadpnjaa
