/- attestref04.Text -/
import Derived.Test.YtgajpmcjjefghaaGreatDoorPPad
import Derived.Test.YtgajpmcjjefghaaGreatDoorPRef4
import Derived.Test.YtgajpmcjjefghaaGreatDoorPRefLow
import Derived.Test.YtgajpmcjjefghaaGreatDoorRefAll
namespace Go.Proofs.YtgajpmcjjefghaaGreatDoor
open Go.RowKit Go.Att

/-- The digits, none for nought. -/
def ptext (n : Nat) : List Nat := if n = 0 then [] else dtext n
theorem ptext_step {n : Nat} (h : n ≠ 0) : ptext n = ptext (n / 10) ++ [n % 10 + 48] := by
  unfold ptext
  rw [if_neg h]
  by_cases h9 : n < 10
  · rw [dtext_small h9, if_pos (by omega), Nat.mod_eq_of_lt h9]; rfl
  · rw [dtext_step h9, if_neg (by omega)]
theorem dtext_fit (n : Nat) : Fit 256 (dtext n) := fun x hx => by have := dtext_digs n x hx; omega
theorem ptext_snoc_len {m n : Nat} {S : List Nat} (h : ptext m ++ S = dtext n) : S.length ≤ (dtext n).length := by rw [← h, List.length_append]; omega
theorem bits_div {m : Nat} (h : m ≠ 0) : (bitsOf (m / 10)).length < (bitsOf m).length := by
  have h1 : 0 < (bitsOf m).length := by
    refine Nat.pos_of_ne_zero fun h2 => h ?_
    have := (bitsOf_len m 0).1 (by omega)
    omega
  have h2 := (bitsOf_len m _).1 (Nat.le_refl _)
  obtain ⟨k, hk⟩ : ∃ k, (bitsOf m).length = k + 1 := ⟨_, (Nat.succ_pred_eq_of_pos h1).symm⟩
  rw [hk] at h2 ⊢
  rw [Nat.pow_succ] at h2
  have := (bitsOf_len (m / 10) k).2 (by omega)
  omega
theorem lit8_rd (w : World) (x : Nat) : RdI .u8 (w.alloc (.cells #[.int .u8 x] 5)) (.slice (some ⟨w.heap.size, 0, none⟩) 1 1) [x] :=
  RdV.lit w #[.int .u8 x] 5 1 1 rfl (by unfold maxLen; omega)
set_option maxHeartbeats 4000000 in
set_option maxRecDepth 100000 in
theorem r4text_any {w : World} {v : Value} {n : Nat} (hv : RdB w v (bitsOf n)) (hl : (bitsOf n).length ≤ 1000000) (hd : (dtext n).length ≤ 1000000) :
    Calls Tryz.prog 36 #[v] w (Gives w fun v' _ => v' = .string (strOf (dtext n))) := by
  refine via fun R hR => ?_
  have HV := Lib.hid hv
  have HL := Lib.hid hl
  have HD := Lib.hid hd
  obtain ⟨a, c, rfl, -, -, -, -⟩ := hv.shape
  clear hv hd
  by_cases hn : n = 0
  · subst hn
    have e0 : (((bitsOf 0).length : Int) == 0) = true := beqT (by rw [bitsOf_zero]; rfl)
    go_enter Tryz.func36, Tryz.ntmps36
    go_wp2_with fail
    exact hR.out _ _ (Gives.mk (Ext.refl _) (by rw [dtext_small (by decide)]; unfold strOf; rfl))
  · have e0 : (((bitsOf n).length : Int) == 0) = false := beqF (by have := bits_div hn; omega)
    have HNE := Lib.hid hn
    clear hn
    go_enter Tryz.func36, Tryz.ntmps36
    go_wp2_with fail
    refine (word_4 10 rfl (by decide)).mono ?_
    rintro e w1 ⟨v1, rfl, b1, o1⟩
    have O1 := Lib.hid o1
    clear o1
    go_wp2_with fail
    go_loopw [0, 3] (fun b s wr => ∃ (m : Nat) (S : List Nat), Hid (RdB wr b (bitsOf m)) ∧ s = .string (strOf S) ∧ Hid (ptext m ++ S = dtext n) ∧ Ext w1 wr ∧ (bitsOf m).length ≤ 1000000) (fun b _ _ => slLen b)
    case atStart => exact ⟨n, [], HV.out.ext b1, by rw [strOf_nil], by show _ = _; rw [List.append_nil]; unfold ptext; rw [if_neg HNE.out], Ext.refl _, HL.out⟩
    case round =>
      obtain ⟨m, S, hB, rfl, hS, hx, hml⟩ := hrel
      obtain ⟨ab, cb, rfl, -, -, -, -⟩ := hB.out.shape
      have HSL : Hid (S.length ≤ 1000000) := Nat.le_trans (ptext_snoc_len hS.out) HD.out
      by_cases hm : m = 0
      · subst hm
        have e1 : decide (0 < (bitsOf 0).length) = false := decide_eq_false (by rw [bitsOf_zero]; simp)
        have HST : Hid (S = dtext n) := by
          have := hS.out
          unfold ptext at this
          rwa [if_pos rfl, List.nil_append] at this
        go_wp2_with fail
        exact hR.out _ _ (Gives.mk (Ext.trans b1 hx) (by rw [HST.out]; rfl))
      · have hlt := bits_div hm
        have e1 : decide (0 < (bitsOf m).length) = true := decide_eq_true (by omega)
        have HPS := Lib.hid (ptext_step hm)
        clear hm
        go_wp2_with fail
        refine (r3DivMod_any hB.out (O1.out.rd.ext hx) (by decide) (by omega) (by
          have := (bitsOf_len 10 4).2 (by decide)
          omega)).mono ?_
        rintro e w2 ⟨_, rfl, b2, q, r, rfl, oq, or'⟩
        rw [bval_bitsOf] at oq or'
        have OQ := Lib.hid oq.rd
        have OR := Lib.hid or'.rd
        obtain ⟨aq, cq, rfl, -, -, -, -⟩ := oq.rd.shape
        obtain ⟨ar, cr, rfl, -, -, -, -⟩ := or'.rd.shape
        clear oq or'
        go_wp2_with fail
        refine (rLow_any OR.out).mono ?_
        rintro e w3 ⟨_, rfl, b3, rfl⟩
        rw [bval_bitsOf, show m % 10 % W64 = m % 10 from Nat.mod_eq_of_lt (Nat.lt_trans (Nat.mod_lt _ (by decide)) (by decide))]
        have hr9 : m % 10 < 10 := Nat.mod_lt _ (by decide)
        generalize m % 10 = d at *
        have hcv := conv_bytes Tryz.underlying94 Tryz.underlying5 Tryz.underlying9 (lit8_rd w3 (48 + d)) (fun x hx => by obtain rfl := List.mem_singleton.1 hx; omega)
        rw [show ((48 + d : Nat) : Int) = 48 + (d : Int) by omega] at hcv
        have hcs : ¬ ((strOf [48 + d]).size + (strOf S).size > 9223372036854775807) := by
          rw [strOf_size, strOf_size, List.length_singleton]
          have := HSL.out
          omega
        have HAP := Lib.hid (strOf_app [48 + d] S)
        have HPT : Hid (ptext (m / 10) ++ ([48 + d] ++ S) = dtext n) := by
          show _ = _
          rw [← hS.out, HPS.out, List.append_assoc, Nat.add_comm 48 d]
        generalize strOf [48 + d] = S2 at *
        go_wp2_with fail
        go_roundw
        case rel => exact ⟨m / 10, [48 + d] ++ S, OQ.out.ext (Ext.trans b3 (Ext.alloc _ _)), by rw [HAP.out], HPT, Ext.trans hx (Ext.trans b2 (Ext.trans b3 (Ext.alloc _ _))), by omega⟩
        case measure => show (bitsOf (m / 10)).length < (bitsOf m).length; omega
end Go.Proofs.YtgajpmcjjefghaaGreatDoor
