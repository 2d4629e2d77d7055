/- attestref02.Sub -/
import Derived.Test.YtblbpelaleaonaaPRefCut
namespace Go.Proofs.Ytblbpelaleaonaa
open Go.RowKit Go.Att

theorem rSub_any {w : World} {va vb : Value} {xa xb : List Bool} (ha : RdB w va xa) (hb : RdB w vb xb) (hle : bval xb ≤ bval xa) (hl : xa.length ≤ 1099511627776) :
    Calls Try.prog 35 #[va, vb] w (Gives w fun v' w' => OwnB 4 w.heap.size w' v' (bitsOf (bval xa - bval xb))) := by
  refine via fun R hR => ?_
  have HLE := Lib.hid hle
  obtain ⟨a, ca, rfl, hla, hma, _, hca⟩ := ha.shape
  obtain ⟨b, cb, rfl, hlb, hmb, _, hcb⟩ := hb.shape
  have HCA := Lib.hid hca
  have HCB := Lib.hid hcb
  clear hca hcb ha hb hle
  unfold maxLen at hma hmb
  go_enter Try.func35, Try.ntmps35
  go_wp2
  go_loopw [5, 6, 12] (fun out c i wr => ∃ (k : Nat) (o : List Bool) (cc : Nat), i = .int .i64 k ∧ k ≤ xa.length ∧ o.length = k ∧ c = .int .i64 cc ∧ cc ≤ 1 ∧ Hid (OwnB 4 w.heap.size wr out o) ∧ Hid (bval (xa.take k) + 2 ^ k * cc = bval o + bval (xb.take k)) ∧ Ext w wr) (fun _ _ i _ => xa.length - (intOf i).toNat)
  case atStart => exact ⟨0, [], 0, rfl, Nat.zero_le _, rfl, rfl, by omega, World.ownsRow_lit w #[] 0 (Nat.le_refl _) (Nat.zero_le _) rfl, by simp [Hid, bval_nil], Ext.alloc _ _⟩
  case round =>
    obtain ⟨k, o, c, rfl, hk, hol, rfl, hc1, hO, hinv, hbel⟩ := hrel
    have HOL := Lib.hid hol
    have hol2 : o.length ≤ k := by omega
    have hsz := hbel.size
    clear hol
    by_cases hlt : k < xa.length
    · obtain ⟨ba, oa, rfl, hca⟩ := HCA.out k hlt
      have hca' := Ext.cell hbel hca
      clear hca
      have fin : ∀ (A : Bool) (y : Bool) (c' : Nat) (d : Bool) (v2 : Value) (w2 : World) (e : Value), nthB xa k = A → nthB xb k = y → A.toNat + 2 * c' = d.toNat + c + y.toNat → w2.ownsRow w.heap.size 4 1 v2 (o.length + 1) (bools o ++ [.bool d]) → Below w.heap.size (wr.alloc (.cells #[e] 4)) w2 → c' ≤ 1 →
          ∃ (k' : Nat) (o' : List Bool) (cc : Nat), (Value.int .i64 ((k : Int) + 1)) = .int .i64 k' ∧ k' ≤ xa.length ∧ o'.length = k' ∧ (Value.int .i64 c') = .int .i64 cc ∧ cc ≤ 1 ∧ Hid (OwnB 4 w.heap.size w2 v2 o') ∧ Hid (bval (xa.take k') + 2 ^ k' * cc = bval o' + bval (xb.take k')) ∧ Ext w w2 := by
        intro A y c' d v2 w2 e hA hy hd ho hb hc'
        subst hy hA
        exact ⟨k + 1, o ++ [d], c', by go_num, by omega, by simp; exact HOL.out, rfl, hc', OwnB.snoc ho rfl rfl, bsub_step HOL.out hinv.out hd, Below.trans (Below.alloc hbel hsz _) hb⟩
      have FIN := Lib.hid fin
      clear fin
      have hc2 : c = 0 ∨ c = 1 := by omega
      by_cases hlt2 : k < xb.length
      · obtain ⟨bb, ob, rfl, hcb⟩ := HCB.out k hlt2
        have hcb' := Ext.cell hbel hcb
        clear hcb
        cases hA : nthB xa k <;> cases hB : nthB xb k <;> rw [hA] at hca' <;> rw [hB] at hcb' <;> rcases hc2 with rfl | rfl
        all_goals
          have HA := Lib.hid hA
          have HB := Lib.hid hB
          clear hA hB
          go_wp2_with (at_builtin; refine append_rd etB rfl _ _ rfl w.heap.size rfl (Ext.owns (Ext.alloc _ _) hO.out) rfl (RdV.lit _ _ _ _ 1 rfl (by unfold maxLen; omega)) (by intro u hu; simp at hu; subst hu; rfl) (by omega) (by unfold maxLen; omega) (by simp; omega) ?_)
          intro v2 w2 ho2 hb2 _
          have HO2 := Lib.hid ho2
          clear ho2
          go_wp2
          go_roundw
          case rel =>
            first
              | exact FIN.out _ _ 0 false _ _ _ HA.out HB.out (by decide) HO2.out hb2 (by omega)
              | exact FIN.out _ _ 0 true _ _ _ HA.out HB.out (by decide) HO2.out hb2 (by omega)
              | exact FIN.out _ _ 1 false _ _ _ HA.out HB.out (by decide) HO2.out hb2 (by omega)
              | exact FIN.out _ _ 1 true _ _ _ HA.out HB.out (by decide) HO2.out hb2 (by omega)
          case measure => simp [intOf] <;> omega
      · have HB := Lib.hid (nthB_ge xb k (by omega))
        cases hA : nthB xa k <;> rw [hA] at hca' <;> rcases hc2 with rfl | rfl
        all_goals
          have HA := Lib.hid hA
          clear hA
          go_wp2_with (at_builtin; refine append_rd etB rfl _ _ rfl w.heap.size rfl (Ext.owns (Ext.alloc _ _) hO.out) rfl (RdV.lit _ _ _ _ 1 rfl (by unfold maxLen; omega)) (by intro u hu; simp at hu; subst hu; rfl) (by omega) (by unfold maxLen; omega) (by simp; omega) ?_)
          intro v2 w2 ho2 hb2 _
          have HO2 := Lib.hid ho2
          clear ho2
          go_wp2
          go_roundw
          case rel =>
            first
              | exact FIN.out _ _ 0 false _ _ _ HA.out HB.out (by decide) HO2.out hb2 (by omega)
              | exact FIN.out _ _ 0 true _ _ _ HA.out HB.out (by decide) HO2.out hb2 (by omega)
              | exact FIN.out _ _ 1 false _ _ _ HA.out HB.out (by decide) HO2.out hb2 (by omega)
              | exact FIN.out _ _ 1 true _ _ _ HA.out HB.out (by decide) HO2.out hb2 (by omega)
          case measure => simp [intOf] <;> omega
    · obtain rfl : k = xa.length := by omega
      have E := Lib.hid (bsub_end HOL.out HLE.out hinv.out)
      go_wp2_with (go_at_call 31; refine (CutOwn hO.out).mono ?_; rintro e w3 ⟨v3, rfl, rfl, ho3⟩)
      have HO3 := Lib.hid ho3
      clear ho3
      go_wp2
      have ho4 := HO3.out
      rw [E.out] at ho4
      exact hR.out _ _ (Gives.mk hbel ho4)
end Go.Proofs.Ytblbpelaleaonaa
