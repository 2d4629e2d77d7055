/- attestref02.Add -/
import Derived.Test.YtblbpelaleaonaaPRefCut
namespace Go.Proofs.Ytblbpelaleaonaa
open Go.RowKit Go.Att

theorem badd_end {o a b : List Bool} {k : Nat} (ha : a.length ≤ k) (hb : b.length ≤ k) (hinv : bval o + 2 ^ k * 0 = bval (a.take k) + bval (b.take k)) : bval o = bval a + bval b := by
  rw [bval_take_ge _ _ ha, bval_take_ge _ _ hb] at hinv
  omega

theorem bit_split1 (d : Bool) (c : Nat) : ((d.toNat + 2 * c) % 2 == 1) = d := by cases d <;> simp
theorem bit_split2 (d : Bool) (c : Nat) : (d.toNat + 2 * c) / 2 = c := by cases d <;> simp <;> omega

set_option maxHeartbeats 2000000 in
theorem rAdd_any {w : World} {va vb : Value} {xa xb : List Bool} (ha : RdB w va xa) (hb : RdB w vb xb) (hla0 : xa.length ≤ 1099511627776) (hlb0 : xb.length ≤ 1099511627776) :
    Calls Try.prog 29 #[va, vb] w (Gives w fun v' w' => OwnB 4 w.heap.size w' v' (bitsOf (bval xa + bval xb))) := by
  refine via fun R hR => ?_
  obtain ⟨a, ca, rfl, hla, hma, _, hca⟩ := ha.shape
  obtain ⟨b, cb, rfl, hlb, hmb, _, hcb⟩ := hb.shape
  have HCA := Lib.hid hca
  have HCB := Lib.hid hcb
  clear hca hcb ha hb
  unfold maxLen at hma hmb
  obtain ⟨M, hM1, hM2, hM3⟩ : ∃ M, xa.length ≤ M ∧ xb.length ≤ M ∧ M ≤ 1099511627776 ∧ (M ≤ xa.length ∨ M ≤ xb.length) := ⟨max xa.length xb.length, by omega, by omega, by omega, by omega⟩
  obtain ⟨hM3, hM4⟩ := hM3
  have HM4 := Lib.hid hM4
  clear hM4
  go_enter Try.func29, Try.ntmps29
  go_wp2
  go_loopw [5, 6, 7, 8] (fun out c i _ wr => ∃ (k : Nat) (o : List Bool) (cc : Nat), i = .int .i64 k ∧ k + cc ≤ M + 1 ∧ o.length = k ∧ c = .int .i64 cc ∧ cc ≤ 1 ∧ Hid (OwnB 4 w.heap.size wr out o) ∧ Hid (bval o + 2 ^ k * cc = bval (xa.take k) + bval (xb.take k)) ∧ Ext w wr) (fun _ c i _ _ => 2 * (M + 1 - (intOf i).toNat) + (intOf c).toNat)
  case atStart => exact ⟨0, [], 0, rfl, Nat.zero_le _, rfl, rfl, by omega, World.ownsRow_lit w #[] 0 (Nat.le_refl _) (Nat.zero_le _) rfl, by simp [Hid, bval_nil], Ext.alloc _ _⟩
  case round =>
    obtain ⟨k, o, c, rfl, hk, hol, rfl, hc1, hO, hinv, hbel⟩ := hrel
    have HOL := Lib.hid hol
    have hol2 : o.length ≤ k := by omega
    have hsz := hbel.size
    clear hol
    have fin : ∀ (A : Bool) (y : Bool) (c' : Nat) (d : Bool) (v2 : Value) (w2 : World) (e : Value), nthB xa k = A → nthB xb k = y → c + A.toNat + y.toNat = d.toNat + 2 * c' → w2.ownsRow w.heap.size 4 1 v2 (o.length + 1) (bools o ++ [.bool d]) → Below w.heap.size (wr.alloc (.cells #[e] 4)) w2 → k + 1 + c' ≤ M + 1 →
        ∃ (k' : Nat) (o' : List Bool) (cc : Nat), (Value.int .i64 ((k : Int) + 1)) = .int .i64 k' ∧ k' + cc ≤ M + 1 ∧ o'.length = k' ∧ (Value.int .i64 c') = .int .i64 cc ∧ cc ≤ 1 ∧ Hid (OwnB 4 w.heap.size w2 v2 o') ∧ Hid (bval o' + 2 ^ k' * cc = bval (xa.take k') + bval (xb.take k')) ∧ Ext w w2 := by
      intro A y c' d v2 w2 e hA hy hd ho hb hc'
      subst hy hA
      have h1 := badd_step HOL.out hinv.out rfl
      rw [hd] at h1
      rw [bit_split1, bit_split2] at h1
      have hc2 : c' ≤ 1 := by
        have t1 : (nthB xa k).toNat ≤ 1 := by cases nthB xa k <;> decide
        have t2 : (nthB xb k).toNat ≤ 1 := by cases nthB xb k <;> decide
        omega
      exact ⟨k + 1, o ++ [d], c', by go_num, hc', by simp; exact HOL.out, rfl, hc2, OwnB.snoc ho rfl rfl, h1, Below.trans (Below.alloc hbel hsz _) hb⟩
    have FIN := Lib.hid fin
    clear fin
    have hc2 : c = 0 ∨ c = 1 := by omega
    by_cases hlt1 : k < xa.length <;> by_cases hlt2 : k < xb.length
    · obtain ⟨ba, oa, rfl, hca⟩ := HCA.out k hlt1
      have hca' := Ext.cell hbel hca
      obtain ⟨bb, ob, rfl, hcb⟩ := HCB.out k hlt2
      have hcb' := Ext.cell hbel hcb
      clear hca hcb
      cases hA : nthB xa k <;> cases hB : nthB xb k <;> rw [hA] at hca' <;> rw [hB] at hcb' <;> rcases hc2 with rfl | rfl
      all_goals
        have HA := Lib.hid hA
        have HB := Lib.hid hB
        clear hA hB
        go_wp2_with (at_builtin; refine append_rd etB rfl _ _ rfl w.heap.size rfl (Ext.owns (Ext.alloc _ _) hO.out) rfl (RdV.lit _ _ _ _ 1 rfl (by unfold maxLen; omega)) (by intro u hu; simp at hu; subst hu; rfl) (by omega) (by unfold maxLen; omega) (by simp; omega) ?_)
        intro v2 w2 ho2 hb2 _
        have HO2 := Lib.hid ho2
        clear ho2
        go_wp2
        go_roundw
        case rel =>
          first
            | exact FIN.out _ _ 0 false _ _ _ HA.out HB.out (by decide) HO2.out hb2 (by omega)
            | exact FIN.out _ _ 0 true _ _ _ HA.out HB.out (by decide) HO2.out hb2 (by omega)
            | exact FIN.out _ _ 1 false _ _ _ HA.out HB.out (by decide) HO2.out hb2 (by omega)
            | exact FIN.out _ _ 1 true _ _ _ HA.out HB.out (by decide) HO2.out hb2 (by omega)
        case measure => simp [intOf] <;> omega
    · obtain ⟨ba, oa, rfl, hca⟩ := HCA.out k hlt1
      have hca' := Ext.cell hbel hca
      clear hca
      have HB := Lib.hid (nthB_ge xb k (by omega))
      cases hA : nthB xa k <;> rw [hA] at hca' <;> rcases hc2 with rfl | rfl
      all_goals
        have HA := Lib.hid hA
        clear hA
        go_wp2_with (at_builtin; refine append_rd etB rfl _ _ rfl w.heap.size rfl (Ext.owns (Ext.alloc _ _) hO.out) rfl (RdV.lit _ _ _ _ 1 rfl (by unfold maxLen; omega)) (by intro u hu; simp at hu; subst hu; rfl) (by omega) (by unfold maxLen; omega) (by simp; omega) ?_)
        intro v2 w2 ho2 hb2 _
        have HO2 := Lib.hid ho2
        clear ho2
        go_wp2
        go_roundw
        case rel =>
          first
            | exact FIN.out _ _ 0 false _ _ _ HA.out HB.out (by decide) HO2.out hb2 (by omega)
            | exact FIN.out _ _ 0 true _ _ _ HA.out HB.out (by decide) HO2.out hb2 (by omega)
            | exact FIN.out _ _ 1 false _ _ _ HA.out HB.out (by decide) HO2.out hb2 (by omega)
            | exact FIN.out _ _ 1 true _ _ _ HA.out HB.out (by decide) HO2.out hb2 (by omega)
        case measure => simp [intOf] <;> omega
    · obtain ⟨bb, ob, rfl, hcb⟩ := HCB.out k hlt2
      have hcb' := Ext.cell hbel hcb
      clear hcb
      have HA := Lib.hid (nthB_ge xa k (by omega))
      cases hB : nthB xb k <;> rw [hB] at hcb' <;> rcases hc2 with rfl | rfl
      all_goals
        have HB := Lib.hid hB
        clear hB
        go_wp2_with (at_builtin; refine append_rd etB rfl _ _ rfl w.heap.size rfl (Ext.owns (Ext.alloc _ _) hO.out) rfl (RdV.lit _ _ _ _ 1 rfl (by unfold maxLen; omega)) (by intro u hu; simp at hu; subst hu; rfl) (by omega) (by unfold maxLen; omega) (by simp; omega) ?_)
        intro v2 w2 ho2 hb2 _
        have HO2 := Lib.hid ho2
        clear ho2
        go_wp2
        go_roundw
        case rel =>
          first
            | exact FIN.out _ _ 0 false _ _ _ HA.out HB.out (by decide) HO2.out hb2 (by omega)
            | exact FIN.out _ _ 0 true _ _ _ HA.out HB.out (by decide) HO2.out hb2 (by omega)
            | exact FIN.out _ _ 1 false _ _ _ HA.out HB.out (by decide) HO2.out hb2 (by omega)
            | exact FIN.out _ _ 1 true _ _ _ HA.out HB.out (by decide) HO2.out hb2 (by omega)
        case measure => simp [intOf] <;> omega
    · have HA := Lib.hid (nthB_ge xa k (by omega))
      have HB := Lib.hid (nthB_ge xb k (by omega))
      rcases hc2 with rfl | rfl
      · have E := Lib.hid (badd_end (by omega) (by omega) hinv.out)
        go_wp2_with (go_at_call 31; refine (CutOwn hO.out).mono ?_; rintro e w3 ⟨v3, rfl, rfl, ho3⟩)
        have HO3 := Lib.hid ho3
        clear ho3
        go_wp2
        have ho4 := HO3.out
        rw [E.out] at ho4
        exact hR.out _ _ (Gives.mk hbel ho4)
      · go_wp2_with (at_builtin; refine append_rd etB rfl _ _ rfl w.heap.size rfl (Ext.owns (Ext.alloc _ _) hO.out) rfl (RdV.lit _ _ _ _ 1 rfl (by unfold maxLen; omega)) (by intro u hu; simp at hu; subst hu; rfl) (by omega) (by unfold maxLen; omega) (by simp; omega) ?_)
        intro v2 w2 ho2 hb2 _
        have HO2 := Lib.hid ho2
        clear ho2
        go_wp2
        go_roundw
        case rel => exact FIN.out _ _ 0 true _ _ _ HA.out HB.out (by decide) HO2.out hb2 (by omega)
        case measure => simp [intOf] <;> omega
end Go.Proofs.Ytblbpelaleaonaa
