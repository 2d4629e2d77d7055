/- attestref02.Word -/
import Derived.Test.YtblbpelaleaonaaPRefCut
namespace Go.Proofs.Ytblbpelaleaonaa
open Go.RowKit Go.Att

theorem rWord_any {w : World} (u : Nat) (hu : u ≤ 18446744073709551615) :
    Calls Try.prog 20 #[.int .u64 u] w (Gives w fun v' w' => OwnB 4 w.heap.size w' v' (bitsOf u)) := by
  refine via fun R hR => ?_
  have HU := Lib.hid ((bitsOf_len u 64).2 (by omega))
  go_enter Try.func20, Try.ntmps20
  go_wp2
  go_loopw [0, 3] (fun n out wr => ∃ (m : Nat) (o : List Bool), n = .int .u64 m ∧ m ≤ u ∧ Hid (OwnB 4 w.heap.size wr out o) ∧ Hid (o ++ bitsOf m = bitsOf u) ∧ Ext w wr) (fun n _ _ => (intOf n).toNat)
  case atStart => exact ⟨u, [], rfl, Nat.le_refl _, World.ownsRow_lit w #[] 0 (Nat.le_refl _) (Nat.zero_le _) rfl, by simp [Hid], Ext.alloc _ _⟩
  case round =>
    obtain ⟨m, o, rfl, hm, hO, hinv, hbel⟩ := hrel
    have hsz := hbel.size
    have hol : o.length ≤ 64 := by
      have h1 := congrArg List.length hinv.out
      have h2 := HU.out
      rw [List.length_append] at h1
      omega
    by_cases h0 : m = 0
    · have h0' : m ≤ 0 := by omega
      have E : Hid (o = bitsOf u) := by
        have h := hinv.out
        rw [h0, bitsOf_zero, List.append_nil] at h
        exact h
      clear h0
      go_wp2
      exact hR.out _ _ (Gives.mk hbel (by rw [← E.out]; exact hO.out))
    · have hpos : 0 < m := by omega
      have HN := Lib.hid (word_step m o u hinv.out h0)
      clear h0
      go_wp2_with (at_builtin; refine append_rd etB rfl _ _ rfl w.heap.size rfl (Ext.owns (Ext.alloc _ _) hO.out) rfl (RdV.lit _ _ _ _ 1 rfl (by unfold maxLen; omega)) (by intro u hu; simp at hu; subst hu; rfl) (by omega) (by unfold maxLen; omega) (by simp; omega) ?_)
      intro v2 w2 ho2 hb2 _
      have HO2 := Lib.hid ho2
      clear ho2
      go_wp2
      go_roundw
      case rel => exact ⟨m / 2, o ++ [m % 2 == 1], by go_num, by omega, OwnB.snoc HO2.out rfl (bit_dec m), HN.out, Below.trans (Below.alloc hbel hsz _) hb2⟩
      case measure => simp [intOf] <;> omega
end Go.Proofs.Ytblbpelaleaonaa
