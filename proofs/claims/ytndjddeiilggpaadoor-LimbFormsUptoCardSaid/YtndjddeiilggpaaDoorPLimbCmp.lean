/- limb.Cmp -/
import Derived.Test.YtndjddeiilggpaaDoorPLimbCut
namespace Go.Proofs.YtndjddeiilggpaaDoor
open Go.RowKit Go.Att

theorem cmp_any {w : World} {va vb : Value} {xa xb : List Nat} (ha : RdL w va xa) (hb : RdL w vb xb) :
    Calls Tryd.prog 10 #[va, vb] w (Gives w fun v' _ => v' = .int .i64 (cmpN (nv xa) (nv xb))) := by
  refine via fun R hR => ?_
  have HA := Lib.hid ha
  have HB := Lib.hid hb
  clear ha hb
  go_enter Tryd.func10, Tryd.ntmps10
  go_wp2_with fail
  refine (cut_any HA.out).mono ?_
  rintro e w' ⟨va', rfl, rfl, hra, -⟩
  have HRA := Lib.hid hra
  clear hra
  go_wp2_with fail
  refine (cut_any HB.out).mono ?_
  rintro e w' ⟨vb', rfl, rfl, hrb, -⟩
  generalize hx : nv xa = x at *
  generalize hy : nv xb = y at *
  obtain ⟨a, ca, rfl, hla, hma, _, hca⟩ := HRA.out.1.shape
  obtain ⟨b, cb, rfl, hlb, hmb, _, hcb⟩ := hrb.1.shape
  have HCA := Lib.hid hca
  have HCB := Lib.hid hcb
  have HRB := Lib.hid hrb
  clear hca hcb hrb hx hy HA HB
  unfold maxLen at hma hmb
  unfold limbs at *
  have fin : ∀ c : Int, cmpN x y = c → ∀ w', Ext w w' → R (.returned (.int .i64 c)) w' := fun c hc w' hw => hR.out _ _ (Gives.mk hw (by rw [hc]))
  have FIN := Lib.hid fin
  clear fin
  by_cases hlen : (digs W32 x).length = (digs W32 y).length
  · have HL := Lib.hid hlen
    have hne : (((digs W32 x).length : Int) != ((digs W32 y).length : Int)) = false := bneF (by omega)
    have hle : (digs W32 x).length ≤ (digs W32 y).length ∧ (digs W32 y).length ≤ (digs W32 x).length := by omega
    obtain ⟨hle1, hle2⟩ := hle
    clear hlen
    go_wp2
    go_loopw [5] (fun s wr => ∃ k : Nat, k ≤ (digs W32 x).length ∧ Hid (SameFrom (digs W32 x) (digs W32 y) k) ∧ s = .int .i64 ((k : Int) - 1) ∧ Ext w wr) (fun s _ => (intOf s + 1).toNat)
    case atStart => exact ⟨_, Nat.le_refl _, fun j h1 h2 => by omega, rfl, Ext.refl _⟩
    case round =>
      obtain ⟨k, hk, hs, rfl, hext⟩ := hrel
      by_cases hk0 : k = 0
      · have hk1 : k ≤ 0 := by omega
        have hs0 : SameFrom (digs W32 x) (digs W32 y) 0 := by have h := hs.out; rwa [hk0] at h
        have E := Lib.hid (cmp_end W32_ge HL.out hs0)
        clear hk0 hs0
        go_wp2
        all_goals exact FIN.out _ E.out _ hext
      · obtain ⟨j, rfl⟩ : ∃ j, k = j + 1 := ⟨k - 1, by omega⟩
        obtain ⟨ba, oa, rfl, hca⟩ := HCA.out j (by omega)
        obtain ⟨bb, ob, rfl, hcb⟩ := HCB.out j (by omega)
        have hca' := hext.cell hca
        have hcb' := hext.cell hcb
        have FA := (fit_digs W32 W32_ge x).nth32 j
        have FB := (fit_digs W32 W32_ge y).nth32 j
        clear hca hcb
        by_cases he : nth (digs W32 x) j = nth (digs W32 y) j
        · have HE := Lib.hid he
          have hb1 : ((nth (digs W32 x) j : Int) != (nth (digs W32 y) j : Int)) = false := bneF (by omega)
          clear he
          go_wp2
          go_region
          all_goals
            go_wp2
            go_roundw
            case rel =>
              refine ⟨j, by omega, fun i h1 h2 => ?_, rfl, hext.drew⟩
              by_cases hi : i = j
              · rw [hi]; exact HE.out
              · exact hs.out i (by omega) h2
            case measure => simp [intOf] <;> omega
        · have hb1 : ((nth (digs W32 x) j : Int) != (nth (digs W32 y) j : Int)) = true := bneT (by omega)
          rcases Nat.lt_or_gt_of_ne he with h | h
          · have E := Lib.hid (cmp_stop_lt W32_ge HL.out (by omega) hs.out h)
            clear he
            go_wp2
            go_region
            all_goals
              go_wp2
              go_region
              all_goals
                go_wp2
                all_goals exact FIN.out _ E.out _ hext.drew.drew
          · have E := Lib.hid (cmp_stop_gt W32_ge HL.out (by omega) hs.out h)
            have hng : ¬ ((nth (digs W32 x) j : Int) < (nth (digs W32 y) j : Int)) := by omega
            clear he
            go_wp2
            go_region
            all_goals
              go_wp2
              go_region
              all_goals
                go_wp2
                all_goals exact FIN.out _ E.out _ hext.drew.drew
  · rcases Nat.lt_or_gt_of_ne hlen with h | h
    · have E := Lib.hid (cmpN_lt (digs_lt_of_len W32_ge h))
      have hne : (((digs W32 x).length : Int) != ((digs W32 y).length : Int)) = true := bneT (by omega)
      clear hlen
      go_wp2
      all_goals exact FIN.out _ E.out _ (Ext.refl _)
    · have E := Lib.hid (cmpN_gt (digs_lt_of_len W32_ge h))
      have hne : (((digs W32 x).length : Int) != ((digs W32 y).length : Int)) = true := bneT (by omega)
      clear hlen
      go_wp2
      all_goals exact FIN.out _ E.out _ (Ext.refl _)
end Go.Proofs.YtndjddeiilggpaaDoor
