/- limb.cut, limb.Norm -/
import Derived.Test.YtndjddeiilggpaaDoorChecked
import Derived.Test.YtndjddeiilggpaaDoorNumAll
import Derived.Deep.QuietTactic
import Derived.BigQuiet
import Derived.Deep.DeepCutAuto
namespace Go.Proofs.YtndjddeiilggpaaDoor
open Go.RowKit Go.Att

theorem cut_any {w : World} {v : Value} {xs : List Nat} (hv : RdL w v xs) :
    Calls Tryd.prog 17 #[v] w fun e w' => ∃ v', e = .returned v' ∧ w = w' ∧ RdL w v' (limbs (nv xs)) ∧ ∃ a cap n, v = .slice a xs.length cap ∧ v' = .slice a n cap := by
  have hd := hv.2
  obtain ⟨a, cap, rfl, hlc, hcm, _, hcell⟩ := hv.1.shape
  refine via fun R hR => ?_
  have HV := Lib.hid hv
  have HC := Lib.hid hcell
  have HD := Lib.hid hd
  clear hcell hd hv
  unfold maxLen at hcm
  go_enter Tryd.func17, Tryd.ntmps17
  go_wp2
  go_loop [0] (fun s => ∃ n : Nat, n ≤ xs.length ∧ Hid (∀ i, n ≤ i → i < xs.length → nth xs i = 0) ∧ s = .slice a n cap) (fun s => match s with | .slice _ n _ => n | _ => 0)
  case atStart => exact ⟨xs.length, Nat.le_refl _, fun i h h' => by omega, rfl⟩
  case round =>
    obtain ⟨n, hn, hz, rfl⟩ := hrel
    have fin : (n = 0 ∨ nth xs (n - 1) ≠ 0) → R (.returned (.slice a n cap)) w := by
      intro hl
      refine hR.out _ _ ⟨_, rfl, rfl, ?_, a, cap, n, rfl, rfl⟩
      have h1 := RdI.take HV.out.1 rfl hn
      have h2 := take_digs W32_ge HD.out hn hz.out hl
      unfold limbs nv
      rw [← h2]
      exact ⟨h1, HD.out.take n⟩
    by_cases h0 : n = 0
    · subst h0
      go_wp2
      all_goals exact fin (.inl rfl)
    · obtain ⟨b, off, rfl, hc⟩ := HC.out (n - 1) (by omega)
      by_cases hz1 : nth xs (n - 1) = 0
      · rw [hz1] at hc
        have HZ2 := Lib.hid hz1
        clear hz1
        go_wp2
        go_round
        case rel =>
          refine ⟨n - 1, by omega, fun i h h' => ?_, rfl⟩
          by_cases hi : i = n - 1
          · rw [hi]; exact HZ2.out
          · exact hz.out i (by omega) h'
        case measure => simp; omega
      · have hb : ((nth xs (n - 1) : Int) == 0) = false := by simpa using hz1
        go_wp2
        all_goals exact fin (.inr hz1)

theorem et32 : ElemT Tryd.prog 22 34 (.int .u32 0) 1 4 := ElemT.mk' Tryd.underlying22 (by kernel_rfl) rfl (by decide)

theorem norm_any {w : World} {v : Value} {xs : List Nat} (hv : RdL w v xs) (hn : xs.length ≤ 17592186044416) :
    Calls Tryd.prog 7 #[v] w (Gives w fun v' w' => OwnL 34 w.heap.size w' v' (limbs (nv xs))) := by
  refine via fun R hR => ?_
  have HV := Lib.hid hv
  have hl : (limbs (nv xs)).length ≤ xs.length := (digs_len W32 W32_ge _ _).2 (val_lt (by decide) hv.2)
  clear hv
  go_enter Tryd.func7, Tryd.ntmps7
  go_wp2_with fail
  refine (cut_any HV.out).mono ?_
  rintro e w' ⟨v', rfl, rfl, hr, -⟩
  have HR := Lib.hid hr
  clear hr
  go_wp2_with (at_builtin; refine append_rd et32 rfl _ _ rfl w.heap.size rfl (World.ownsRow_nil _ _ _ _) rfl HR.out.1 (ints_one _ _) (by omega) (by unfold maxLen; omega) (Nat.le_refl _) ?_)
  intro v1 w1 ho hb _
  have HO := Lib.hid ho
  clear ho
  go_wp2
  exact hR.out _ _ (Gives.mk hb ⟨by simpa [OwnI] using HO.out, HR.out.2⟩)
end Go.Proofs.YtndjddeiilggpaaDoor
