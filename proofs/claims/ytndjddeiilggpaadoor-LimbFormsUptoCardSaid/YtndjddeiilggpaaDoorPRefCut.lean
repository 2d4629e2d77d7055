/- attestref02.Cut -/
import Derived.Test.YtndjddeiilggpaaDoorPLimbCut
namespace Go.Proofs.YtndjddeiilggpaaDoor
open Go.RowKit Go.Att

theorem etB : ElemT Tryd.prog 23 4 (.bool false) 1 1 := ElemT.mk' Tryd.underlying23 (by kernel_rfl) rfl (by decide)

theorem Cut_any {w : World} {v : Value} {bs : List Bool} (hv : RdB w v bs) :
    Calls Tryd.prog 15 #[v] w fun e w' => ∃ a n cap, v = .slice a bs.length cap ∧ e = .returned (.slice a n cap) ∧ w = w' ∧ n ≤ bs.length ∧ bs.take n = bitsOf (bval bs) := by
  refine via fun R hR => ?_
  have HV := Lib.hid hv
  obtain ⟨a, cap, rfl, hlc, hcm, _, hcell⟩ := hv.shape
  have HC := Lib.hid hcell
  clear hcell hv
  unfold maxLen at hcm
  go_enter Tryd.func15, Tryd.ntmps15
  go_wp2
  go_loop [3] (fun s => ∃ n : Nat, n ≤ bs.length ∧ Hid (∀ i, n ≤ i → i < bs.length → nthB bs i = false) ∧ s = .int .i64 n) (fun s => (intOf s).toNat)
  case atStart => exact ⟨bs.length, Nat.le_refl _, fun i h h' => by omega, rfl⟩
  case round =>
    obtain ⟨n, hn, hz, rfl⟩ := hrel
    have fin : (n = 0 ∨ nthB bs (n - 1) = true) → R (.returned (.slice a n cap)) w := by
      intro hl
      exact hR.out _ _ ⟨a, n, cap, rfl, rfl, rfl, hn, take_bits hn hz.out hl⟩
    have FIN := Lib.hid fin
    clear fin
    by_cases h0 : n = 0
    · have h0' : n ≤ 0 := by omega
      have H0 := Lib.hid h0
      clear h0
      go_wp2
      have h := FIN.out (.inl H0.out)
      rw [H0.out] at h
      exact h
    · obtain ⟨b, off, rfl, hc⟩ := HC.out (n - 1) (by omega)
      cases hb : nthB bs (n - 1)
      · rw [hb] at hc
        have HB := Lib.hid hb
        clear hb
        go_wp2
        go_round
        case rel =>
          refine ⟨n - 1, by omega, fun i h h' => ?_, by go_num⟩
          by_cases hi : i = n - 1
          · rw [hi]; exact HB.out
          · exact hz.out i (by omega) h'
        case measure => simp [intOf] <;> omega
      · rw [hb] at hc
        have HB := Lib.hid hb
        clear hb
        go_wp2
        all_goals exact FIN.out (.inr HB.out)

theorem CutOwn {w : World} {B : Nat} {v : Value} {bs : List Bool} (hv : OwnB 4 B w v bs) :
    Calls Tryd.prog 15 #[v] w fun e w' => ∃ v', e = .returned v' ∧ w = w' ∧ OwnB 4 B w' v' (bitsOf (bval bs)) := by
  refine (Cut_any hv.rd).mono ?_
  rintro e w' ⟨a, n, cap, rfl, rfl, rfl, hn, ht⟩
  refine ⟨_, rfl, rfl, ?_⟩
  rw [← ht]
  exact OwnB.take hv rfl hn
end Go.Proofs.YtndjddeiilggpaaDoor
