/- attestref02.To -/
import Derived.Test.YtndjddeiilggpaaDoorPRefCut
import Derived.Lib.Small
import Derived.Lib.Walk
namespace Go.Proofs.YtndjddeiilggpaaDoor
open Go.RowKit Go.Att

theorem To_any {w : World} {v : Value} {bs : List Bool} (hv : RdB w v bs) (hl : bs.length ≤ 1099511627776) :
    Calls Tryd.prog 9 #[v] w (Gives w fun v' w' => OwnL 34 w.heap.size w' v' (limbs (bval bs))) := by
  refine via fun R hR => ?_
  have HV := Lib.hid hv
  obtain ⟨a, cap, rfl, hlc, hcm, _, hcell⟩ := hv.shape
  have HC := Lib.hid hcell
  clear hcell hv
  unfold maxLen at hcm
  go_enter Tryd.func9, Tryd.ntmps9
  go_wp2
  go_loopw [3, 4, 5, 6] (fun out i _ _ wr => ∃ (k : Nat) (o : List Nat), i = .int .i64 (32 * k : Nat) ∧ 32 * k ≤ bs.length + 31 ∧ o.length = k ∧ Hid (OwnL 34 w.heap.size wr out o) ∧ Hid (nv o = bval (bs.take (32 * k))) ∧ Ext w wr) (fun _ i _ _ _ => bs.length + 32 - (intOf i).toNat)
  case atStart => exact ⟨0, [], rfl, by omega, rfl, ⟨World.ownsRow_lit w #[] 0 (Nat.le_refl _) (Nat.zero_le _) rfl, Fit.nil _⟩, by simp [Hid, nv, val, bval_nil], Ext.alloc _ _⟩
  case round =>
    obtain ⟨k, o, rfl, hk, hol, hO, hinv, hbel⟩ := hrel
    have hsz := hbel.size
    by_cases hlt : 32 * k < bs.length
    · obtain ⟨e, he⟩ : ∃ e, e = min (32 * k + 32) bs.length := ⟨_, rfl⟩
      have he1 : (min (32 * (k : Int) + 32) bs.length : Int) = e := by omega
      have he2 : e ≤ bs.length := by omega
      have he3 : e ≤ 32 * k + 32 := by omega
      have he4 : 32 * k < e := by omega
      have HE := Lib.hid he
      clear he
      go_wp2
      obtain ⟨wo, rfl⟩ : ∃ wo : World, wo = wr := ⟨_, rfl⟩
      clear he1
      go_loop [5, 6] (fun w j => ∃ (m ww : Nat), 32 * k ≤ m ∧ m ≤ e ∧ j = .int .i64 ((m : Int) - 1) ∧ w = .int .u32 ww ∧ ww ≤ 4294967295 ∧ Hid (ww = seg bs m e)) (fun _ j => (intOf j + 1).toNat)
      case atStart => exact ⟨e, 0, by omega, Nat.le_refl _, rfl, rfl, by omega, (seg_top bs e).symm⟩
      case round =>
        obtain ⟨m, ww, hm1, hm2, rfl, rfl, hww, hseg⟩ := hrel
        by_cases hlt2 : 32 * k < m
        · obtain ⟨j, rfl⟩ : ∃ j, m = j + 1 := ⟨m - 1, by omega⟩
          obtain ⟨ba, oa, rfl, hc⟩ := HC.out j (by omega)
          have hc2 := Ext.cell hbel hc
          have hsd := seg_down bs j e (by omega) he2
          have hf := seg_fit2 he2 he3 hlt2
          rw [← hseg.out] at hsd hf
          clear hc
          cases hb : nthB bs j
          · rw [hb] at hc2 hsd
            have HSD : Hid (2 * ww = seg bs j e) := by show _ = _; rw [hsd]; rfl
            clear hsd hb
            go_wp2
            go_round
            case rel => exact ⟨j, 2 * ww, by omega, by omega, by go_num, by go_num, by omega, HSD.out⟩
            case measure => simp [intOf] <;> omega
          · rw [hb] at hc2 hsd
            have HSD : Hid (2 * ww + 1 = seg bs j e) := by show _ = _; rw [hsd]; rfl
            clear hsd hb
            go_wp2
            go_round
            case rel => exact ⟨j, 2 * ww + 1, by omega, by omega, by go_num, by go_num, by omega, HSD.out⟩
            case measure => simp [intOf] <;> omega
        · obtain rfl : m = 32 * k := by omega
          go_wp2_with (at_builtin; refine append_rd et32 rfl _ _ rfl w.heap.size rfl (Ext.owns (Ext.alloc _ _) hO.out.1) rfl (RdV.lit _ _ _ _ 1 rfl (by unfold maxLen; omega)) (by intro u hu; simp at hu; subst hu; rfl) (by omega) (by unfold maxLen; omega) (by simp; omega) ?_)
          intro v2 w2 ho2 hb2 _
          have HO2 := Lib.hid ho2
          clear ho2
          go_wp2
          go_roundw
          case rel =>
            exact ⟨k + 1, o ++ [ww], by go_num, by omega, by simp; omega, OwnL.snoc HO2.out (by omega) rfl hO.out.2 (by unfold W32; omega), by rw [hseg.out]; exact to_step hol hlt HE.out hinv.out, Below.trans (Below.alloc hbel hsz _) hb2⟩
          case measure => simp [intOf] <;> omega
    · obtain ⟨ab, cb, rfl, hlb, hmb, _, hcb⟩ := hO.out.1.rd.shape
      have HCB := Lib.hid hcb
      clear hcb
      unfold maxLen at hmb
      have E : Hid (nv o = bval bs) := by
        show _ = _
        have h := hinv.out
        rwa [bval_take_ge _ _ (by omega)] at h
      clear hol
      go_wp2
      obtain ⟨wo, rfl⟩ : ∃ wo : World, wo = wr := ⟨_, rfl⟩
      go_loop [7] (fun s => ∃ n : Nat, n ≤ o.length ∧ Hid (∀ i, n ≤ i → i < o.length → nth o i = 0) ∧ s = .int .i64 n) (fun s => (intOf s).toNat)
      case atStart => exact ⟨o.length, Nat.le_refl _, fun i h h' => by omega, rfl⟩
      case round =>
        obtain ⟨n, hn, hz, rfl⟩ := hrel
        have fin : (n = 0 ∨ nth o (n - 1) ≠ 0) → R (.returned (.slice ab n cb)) wo := by
          intro h
          refine hR.out _ _ (Gives.mk hbel ?_)
          have h1 := OwnI.take hO.out.1 rfl hn
          have h2 := take_digs W32_ge hO.out.2 hn hz.out h
          have h3 := E.out
          unfold nv at h3
          rw [h3] at h2
          unfold limbs
          rw [← h2]
          exact ⟨h1, hO.out.2.take n⟩
        have FIN := Lib.hid fin
        clear fin
        by_cases h0 : n = 0
        · have h0' : n ≤ 0 := by omega
          have H0 := Lib.hid h0
          clear h0
          go_wp2
          have h := FIN.out (.inl H0.out)
          rw [H0.out] at h
          exact h
        · obtain ⟨bb, ob, rfl, hc⟩ := HCB.out (n - 1) (by omega)
          by_cases hz1 : nth o (n - 1) = 0
          · rw [hz1] at hc
            have HZ2 := Lib.hid hz1
            clear hz1
            go_wp2
            go_round
            case rel =>
              refine ⟨n - 1, by omega, fun i h h' => ?_, by go_num⟩
              by_cases hi : i = n - 1
              · rw [hi]; exact HZ2.out
              · exact hz.out i (by omega) h'
            case measure => simp [intOf] <;> omega
          · have hb : ((nth o (n - 1) : Int) == 0) = false := by simpa using hz1
            have HZ2 := Lib.hid hz1
            clear hz1
            go_wp2
            all_goals exact FIN.out (.inr HZ2.out)
end Go.Proofs.YtndjddeiilggpaaDoor
