/- attestref02.Of -/
import Derived.Test.YtndjddeiilggpaaDoorPRefCut
namespace Go.Proofs.YtndjddeiilggpaaDoor
open Go.RowKit Go.Att

theorem Of_any {w : World} {v : Value} {xs : List Nat} (hv : RdL w v xs) (hl : xs.length ≤ 34359738368) :
    Calls Tryd.prog 4 #[v] w (Gives w fun v' w' => OwnB 4 w.heap.size w' v' (bitsOf (nv xs))) := by
  refine via fun R hR => ?_
  have HV := Lib.hid hv
  obtain ⟨a, cap, rfl, hlc, hcm, _, hcell⟩ := hv.1.shape
  have HC := Lib.hid hcell
  clear hcell hv
  unfold maxLen at hcm
  go_enter Tryd.func4, Tryd.ntmps4
  go_wp2
  go_loopw [3, 5, 6, 10] (fun b _ _ i wr => ∃ (k : Nat) (o : List Bool), i = .int .i64 k ∧ k ≤ xs.length ∧ o.length = 32 * k ∧ Hid (OwnB 4 w.heap.size wr b o) ∧ Hid (bval o = nv (xs.take k)) ∧ Ext w wr) (fun _ _ _ i _ => xs.length - (intOf i).toNat)
  case atStart => exact ⟨0, [], rfl, Nat.zero_le _, rfl, World.ownsRow_lit w #[] 0 (Nat.le_refl _) (Nat.zero_le _) rfl, by simp [Hid, nv, val, bval_nil], Ext.alloc _ _⟩
  case round =>
    obtain ⟨k, o, rfl, hk, hol, hO, hinv, hbel⟩ := hrel
    have hsz := hbel.size
    by_cases hlt : k < xs.length
    · obtain ⟨ba, oa, rfl, hc⟩ := HC.out k hlt
      have hc2 := Ext.cell hbel hc
      have FA := HV.out.2.nth32 k
      clear hc
      go_wp2
      obtain ⟨wo, rfl⟩ : ∃ wo : World, wo = wr := ⟨_, rfl⟩
      go_loopw [3, 5, 6] (fun b x i wr => ∃ (n : Nat) (o : List Bool) (ww : Nat), i = .int .i64 n ∧ n ≤ 32 ∧ o.length = 32 * k + n ∧ x = .int .u32 ww ∧ ww ≤ 4294967295 ∧ Hid (ww = nth xs k / 2 ^ n) ∧ Hid (OwnB 4 w.heap.size wr b o) ∧ Hid (bval o = nv (xs.take k) + 2 ^ (32 * k) * (nth xs k % 2 ^ n)) ∧ Ext w wr) (fun _ _ i _ => 32 - (intOf i).toNat)
      case atStart => exact ⟨0, o, nth xs k, rfl, by omega, by omega, rfl, FA, by simp [Hid], hO, by simp [Hid, Nat.mod_one]; exact hinv.out, hbel⟩
      case round =>
        obtain ⟨n, o2, ww, rfl, hn, hol2, rfl, hww, hw2, hO2, hinv2, hbel2⟩ := hrel
        have hsz2 := hbel2.size
        clear hbel hc2 hsz
        by_cases hlt2 : n < 32
        · go_wp2_with (at_builtin; refine append_rd etB rfl _ _ rfl w.heap.size rfl (Ext.owns (Ext.alloc _ _) hO2.out) rfl (RdV.lit _ _ _ _ 1 rfl (by unfold maxLen; omega)) (by intro u hu; simp at hu; subst hu; rfl) (by omega) (by unfold maxLen; omega) (by simp; omega) ?_)
          intro v2 w2 ho2 hb2 _
          have HO2 := Lib.hid ho2
          clear ho2
          go_wp2
          go_roundw
          case rel => exact ⟨n + 1, o2 ++ [ww % 2 == 1], ww / 2, by go_num, by omega, by simp; omega, by go_num, by omega, by rw [hw2.out, Nat.pow_succ, Nat.div_div_eq_div_mul]; rfl, OwnB.snoc HO2.out (by omega) (bit_dec ww), of_inner hol2 hinv2.out hw2.out, Below.trans (Below.alloc hbel2 hsz2 _) hb2⟩
          case measure => simp [intOf] <;> omega
        · go_wp2
          go_roundw
          case rel =>
            obtain rfl : n = 32 := by omega
            exact ⟨k + 1, o2, by go_num, by omega, by omega, hO2, by rw [← of_outer FA]; exact hinv2.out, hbel2⟩
          case measure => simp [intOf] <;> omega
    · have E : Hid (bval o = nv xs) := by
        show _ = _
        have h := hinv.out
        unfold nv at h
        rw [val_take_ge _ _ _ (by omega)] at h
        exact h
      go_wp2_with (go_at_call 15; refine (CutOwn hO.out).mono ?_; rintro e w3 ⟨v3, rfl, rfl, ho3⟩)
      have HO3 := Lib.hid ho3
      clear ho3
      go_wp2
      have ho4 := HO3.out
      rw [E.out] at ho4
      exact hR.out _ _ (Gives.mk hbel ho4)
end Go.Proofs.YtndjddeiilggpaaDoor
