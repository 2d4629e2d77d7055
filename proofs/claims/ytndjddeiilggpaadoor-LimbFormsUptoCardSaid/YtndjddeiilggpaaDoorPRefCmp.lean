/- attestref02.Cmp -/
import Derived.Test.YtndjddeiilggpaaDoorPRefCut
namespace Go.Proofs.YtndjddeiilggpaaDoor
open Go.RowKit Go.Att

theorem rCmp_any {w : World} {va vb : Value} (x y : Nat) (ha : RdB w va (bitsOf x)) (hb : RdB w vb (bitsOf y)) :
    Calls Tryd.prog 11 #[va, vb] w (Gives w fun v' _ => v' = .int .i64 (cmpN x y)) := by
  refine via fun R hR => ?_
  obtain ⟨a, ca, rfl, hla, hma, _, hca⟩ := ha.shape
  obtain ⟨b, cb, rfl, hlb, hmb, _, hcb⟩ := hb.shape
  have HCA := Lib.hid hca
  have HCB := Lib.hid hcb
  clear hca hcb ha hb
  unfold maxLen at hma hmb
  have fin : ∀ c : Int, cmpN x y = c → ∀ w', Ext w w' → R (.returned (.int .i64 c)) w' := fun c hc w' hw => hR.out _ _ (Gives.mk hw (by rw [hc]))
  have FIN := Lib.hid fin
  clear fin
  by_cases hlen : (bitsOf x).length = (bitsOf y).length
  · have HL := Lib.hid hlen
    have hne : (((bitsOf x).length : Int) != ((bitsOf y).length : Int)) = false := bneF (by omega)
    have hle : (bitsOf x).length ≤ (bitsOf y).length ∧ (bitsOf y).length ≤ (bitsOf x).length := by omega
    obtain ⟨hle1, hle2⟩ := hle
    clear hlen
    go_enter Tryd.func11, Tryd.ntmps11
    go_wp2
    go_loopw [5] (fun s wr => ∃ k : Nat, k ≤ (bitsOf x).length ∧ Hid (SameFromB (bitsOf x) (bitsOf y) k) ∧ s = .int .i64 ((k : Int) - 1) ∧ Ext w wr) (fun s _ => (intOf s + 1).toNat)
    case atStart => exact ⟨_, Nat.le_refl _, fun j h1 h2 => by omega, rfl, Ext.refl _⟩
    case round =>
      obtain ⟨k, hk, hs, rfl, hext⟩ := hrel
      by_cases hk0 : k = 0
      · have hk1 : k ≤ 0 := by omega
        have hs0 : SameFromB (bitsOf x) (bitsOf y) 0 := by have h := hs.out; rwa [hk0] at h
        have E := Lib.hid (bcmp_end HL.out hs0)
        clear hk0 hs0
        go_wp2
        all_goals exact FIN.out _ E.out _ hext
      · obtain ⟨j, rfl⟩ : ∃ j, k = j + 1 := ⟨k - 1, by omega⟩
        obtain ⟨ba, oa, rfl, hca⟩ := HCA.out j (by omega)
        obtain ⟨bb, ob, rfl, hcb⟩ := HCB.out j (by omega)
        have hca' := hext.cell hca
        have hcb' := hext.cell hcb
        clear hca hcb
        cases hA : nthB (bitsOf x) j <;> cases hB : nthB (bitsOf y) j <;> rw [hA] at hca' <;> rw [hB] at hcb'
        · have HE := Lib.hid (hA.trans hB.symm)
          clear hA hB
          go_wp2
          go_region
          all_goals
            go_wp2
            go_roundw
            case rel =>
              refine ⟨j, by omega, fun i h1 h2 => ?_, rfl, hext.drew⟩
              by_cases hi : i = j
              · rw [hi]; exact HE.out
              · exact hs.out i (by omega) h2
            case measure => simp [intOf] <;> omega
        · have E := Lib.hid (bcmp_lt HL.out (by omega) hs.out hA hB)
          clear hA hB
          go_wp2
          go_region
          all_goals
            go_wp2
            all_goals exact FIN.out _ E.out _ hext.drew
        · have E := Lib.hid (bcmp_gt HL.out (by omega) hs.out hA hB)
          clear hA hB
          go_wp2
          go_region
          all_goals
            go_wp2
            all_goals exact FIN.out _ E.out _ hext.drew
        · have HE := Lib.hid (hA.trans hB.symm)
          clear hA hB
          go_wp2
          go_region
          all_goals
            go_wp2
            go_roundw
            case rel =>
              refine ⟨j, by omega, fun i h1 h2 => ?_, rfl, hext.drew⟩
              by_cases hi : i = j
              · rw [hi]; exact HE.out
              · exact hs.out i (by omega) h2
            case measure => simp [intOf] <;> omega
  · rcases Nat.lt_or_gt_of_ne hlen with h | h
    · have E := Lib.hid (cmpN_lt (bcmp_len h))
      have hne : (((bitsOf x).length : Int) != ((bitsOf y).length : Int)) = true := bneT (by omega)
      clear hlen
      go_enter Tryd.func11, Tryd.ntmps11
      go_wp2
      all_goals exact FIN.out _ E.out _ (Ext.refl _)
    · have E := Lib.hid (cmpN_gt (bcmp_len h))
      have hne : (((bitsOf x).length : Int) != ((bitsOf y).length : Int)) = true := bneT (by omega)
      clear hlen
      go_enter Tryd.func11, Tryd.ntmps11
      go_wp2
      all_goals exact FIN.out _ E.out _ (Ext.refl _)
end Go.Proofs.YtndjddeiilggpaaDoor
