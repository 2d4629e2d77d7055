/- limb.Pack -/
import Derived.Test.YtjnbhinjpinkaaaLimbAll
namespace Go.Proofs.Ytjnbhinjpinkaaa
open Go.RowKit Go.Att

theorem et8 : ElemT Try.prog 105 5 (.int .u8 0) 1 1 := ElemT.mk' Try.underlying105 (by kernel_rfl) rfl (by decide)
theorem pack_any {w : World} {va : Value} {xs : List Nat} (ha : RdL w va xs) (hl : xs.length ≤ 1099511627776) :
    Calls Try.prog 74 #[va] w (Gives w fun v' w' => OwnI .u8 5 w.heap.size w' v' (digs 256 (nv xs))) := by
  refine via fun R hR => ?_
  have HA := Lib.hid ha
  have hll := limbs_len_le ha.2
  clear ha
  go_enter Try.func74, Try.ntmps74
  go_wp2_with fail
  refine (cut_any HA.out).mono ?_
  rintro e w' ⟨v', rfl, rfl, hr, -⟩
  generalize hx : nv xs = x at *
  obtain ⟨a, ca, rfl, hla, hma, _, hca⟩ := hr.1.shape
  have HC := Lib.hid hca
  clear hca hr hx
  unfold maxLen at hma
  go_wp2_with fail
  go_loopw [3, 9] (fun b i wr => ∃ (k : Nat) (o : List Nat), i = .int .i64 k ∧ k ≤ (limbs x).length ∧ o.length = 4 * k ∧ Hid (Fit 256 o) ∧ Hid (OwnI .u8 5 w.heap.size wr b o) ∧ Hid (val 256 o = nv ((limbs x).take k)) ∧ Ext w wr) (fun _ i _ => (limbs x).length - (intOf i).toNat)
  case atStart => exact ⟨0, [], rfl, Nat.zero_le _, rfl, Fit.nil _, OwnI.nil _ _ _ _, by simp [Hid, nv, val], Ext.refl _⟩
  case round =>
    obtain ⟨k, o, rfl, hk, hol, hfo, hO, hinv, hbel⟩ := hrel
    have hsz2 := hbel.size
    by_cases hlt : k < (limbs x).length
    · obtain ⟨ba, oa, rfl, hc⟩ := HC.out k hlt
      have hc2 := Ext.cell hbel hc
      have FA := (fit_limbs x).nth32 k
      clear hc
      go_wp2_with (at_builtin; refine append_rd et8 rfl _ _ rfl w.heap.size rfl (Ext.owns (Ext.alloc _ _) hO.out) rfl (RdV.lit _ _ _ _ 4 rfl (by unfold maxLen; omega)) (by intro u hu; simp at hu; rcases hu with hu | hu | hu | hu <;> (subst hu; rfl)) (by omega) (by unfold maxLen; omega) (by simp; omega) ?_)
      intro v2 w2 ho2 hb2 _
      have HO2 := Lib.hid ho2
      clear ho2
      go_wp2
      go_roundw
      case rel =>
        exact ⟨k + 1, o ++ bytes4 (nth (limbs x) k), rfl, by omega, by simp [bytes4]; omega, hfo.out.app (fit_bytes4 _), OwnI.app HO2.out (by simp [bytes4]; omega) (by simp [ints, bytes4] <;> omega),
          pack_step (fit_limbs x) hol hinv.out, Below.trans (Below.alloc hbel hsz2 _) hb2⟩
      case measure => simp [intOf] <;> omega
    · obtain rfl : k = (limbs x).length := by omega
      have hv : val 256 o = x := by
        have h := hinv.out
        unfold nv at h
        rw [val_take_ge _ _ _ (Nat.le_refl _)] at h
        rw [h]; exact nv_limbs x
      have HV := Lib.hid hv
      obtain ⟨ab, cb, rfl, hlb, hmb, _, hcb⟩ := hO.out.rd.shape
      have HCB := Lib.hid hcb
      clear hcb hv
      unfold maxLen at hmb
      go_wp2_with fail
      go_loop [3] (fun s => ∃ n : Nat, n ≤ o.length ∧ Hid (∀ i, n ≤ i → i < o.length → nth o i = 0) ∧ s = .slice ab n cb) (fun s => match s with | .slice _ n _ => n | _ => 0)
      case atStart => exact ⟨o.length, Nat.le_refl _, fun i h h' => by omega, rfl⟩
      case round =>
        obtain ⟨n, hn, hz, rfl⟩ := hrel
        have fin : (n = 0 ∨ nth o (n - 1) ≠ 0) → R (.returned (.slice ab n cb)) wr := by
          intro h
          refine hR.out _ _ (Gives.mk hbel ?_)
          have h1 := OwnI.take hO.out rfl hn
          have h2 := take_digs (by decide) hfo.out hn hz.out h
          rw [HV.out] at h2
          rw [← h2]
          exact h1
        have FIN := Lib.hid fin
        clear fin
        by_cases h0 : n = 0
        · have h0' : n ≤ 0 := by omega
          have H0 := Lib.hid h0
          clear h0
          go_wp2
          all_goals exact FIN.out (.inl H0.out)
        · obtain ⟨bb, ob, rfl, hc⟩ := HCB.out (n - 1) (by omega)
          by_cases hz1 : nth o (n - 1) = 0
          · rw [hz1] at hc
            have HZ2 := Lib.hid hz1
            clear hz1
            go_wp2
            go_round
            case rel =>
              refine ⟨n - 1, by omega, fun i h h' => ?_, rfl⟩
              by_cases hi : i = n - 1
              · rw [hi]; exact HZ2.out
              · exact hz.out i (by omega) h'
            case measure => simp; omega
          · have hb : ((nth o (n - 1) : Int) == 0) = false := by simpa using hz1
            have HZ2 := Lib.hid hz1
            clear hz1
            go_wp2
            all_goals exact FIN.out (.inr HZ2.out)

end Go.Proofs.Ytjnbhinjpinkaaa
