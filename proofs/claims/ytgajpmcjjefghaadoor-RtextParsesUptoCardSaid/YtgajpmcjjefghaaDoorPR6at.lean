/- attestref06.at; attestref04.Parse by lists -/
import Derived.Test.YtgajpmcjjefghaaDoorPRtParse
import Derived.Test.YtgajpmcjjefghaaDoorPRef4
import Derived.Laws.DeepStrings4
namespace Go.Proofs.YtgajpmcjjefghaaDoor
open Go.RowKit Go.Att

theorem pos_at {c : Nat} {L : List Nat} (h : pos c L < L.length) : nth L (pos c L) = c := by
  have h1 : (L[pos c L]'h == c) = true := List.findIdx_getElem (w := h)
  rw [nth_lt _ _ h]
  exact eq_of_beq h1
theorem pos_before {c : Nat} {L : List Nat} {k : Nat} (h : k < pos c L) : nth L k ≠ c := by
  have h1 := List.not_of_lt_findIdx h
  rw [nth_lt _ _ (Nat.lt_of_lt_of_le h (pos_le c L))]
  simpa using h1
theorem pos_of {c : Nat} {L : List Nat} {k : Nat} (hk : k < L.length) (h : nth L k = c) (hb : ∀ j, j < k → nth L j ≠ c) : pos c L = k := by
  have h1 : ¬ k < pos c L := fun h2 => pos_before h2 h
  by_cases h2 : pos c L < k
  · exact absurd (pos_at (Nat.lt_trans h2 hk)) (hb _ h2)
  · omega
theorem pos_none {c : Nat} {L : List Nat} (hb : ∀ j, j < L.length → nth L j ≠ c) : ¬ pos c L < L.length := fun h => hb _ h (pos_at h)
theorem r6at_any {w : World} {L : List Nat} (c : UInt8) (hf : Fit 256 L) (hl : L.length ≤ 1000000) :
    Calls Tryd.prog 63 #[.string (strOf L), .int .u8 c.toNat] w (Gives w fun v' _ => v' = .int .i64 (if pos c.toNat L < L.length then ((pos c.toNat L : Nat) : Int) else -1)) := by
  refine via fun R hR => ?_
  have HF := Lib.hid hf
  have hsz := strOf_size L
  have HAT : Hid (∀ i (h : i < (strOf L).size), ((strOf L)[i]'h).toNat = nth L i) := fun i h => strOf_at hf h
  have FIN : Hid (∀ z : Int, z = (if pos c.toNat L < L.length then ((pos c.toNat L : Nat) : Int) else -1) → R (.returned (.int .i64 z)) w) := fun z hz => hR.out _ _ (Gives.mk (Ext.refl _) (by rw [hz]))
  clear hR hf
  generalize strOf L = S at *
  go_enter Tryd.func63, Tryd.ntmps63
  go_wp2_with fail
  go_loopw [5] (fun i wr => ∃ k : Nat, i = .int .i64 k ∧ k ≤ L.length ∧ w = wr ∧ Hid (∀ j, j < k → nth L j ≠ c.toNat)) (fun i _ => L.length - (intOf i).toNat)
  case atStart => exact ⟨0, rfl, Nat.zero_le _, rfl, fun j hj => absurd hj (Nat.not_lt_zero j)⟩
  case round =>
    obtain ⟨k, rfl, hk, rfl, hB⟩ := hrel
    by_cases hlt : k < L.length
    · have hkS : k < S.size := by omega
      obtain ⟨x, hx⟩ : ∃ x : UInt8, S[k]'hkS = x := ⟨_, rfl⟩
      have hxn : Hid (x.toNat = nth L k) := by show _ = _; rw [← hx]; exact HAT.out k hkS
      by_cases hc : x.toNat = c.toNat
      · have hxc : x = c := UInt8.toNat_inj.1 hc
        subst hxc
        have HP := pos_of hlt hxn.out.symm hB.out
        have E := Lib.hid (FIN.out (k : Int) (by rw [HP, if_pos hlt]))
        clear FIN HP hc
        go_wp2_with fail
        exact E.out
      · have HB2 : Hid (∀ j, j < k + 1 → nth L j ≠ c.toNat) := fun j hj => by
          by_cases h : j = k
          · rw [h, ← hxn.out]; exact hc
          · exact hB.out j (by omega)
        have hcd : ((x.toNat : Int) == (c.toNat : Int)) = false := beqF (by omega)
        clear hc
        go_wp2_with fail
        go_roundw
        case rel => exact ⟨k + 1, by go_num, by omega, by simp, HB2⟩
        case measure => simp [intOf] <;> omega
    · have HN := pos_none (L := L) (c := c.toNat) fun j hj => hB.out j (by omega)
      have E := Lib.hid (FIN.out (-1) (by rw [if_neg HN]))
      clear FIN HN
      go_wp2_with fail
      exact E.out
theorem r4p_yes {w : World} {L : List Nat} (h : goodB L = true) (hl : L.length ≤ 2000) :
    Calls Tryd.prog 14 #[.string (strOf L)] w (Gives w fun v' w' => ∃ v, v' = .tuple #[v, .bool true] ∧ OwnB 4 w.heap.size w' v (bitsOf (numOf L))) := by
  obtain ⟨h0, hd⟩ := goodB_iff.1 h
  have hb : bsOf (strOf L) = L := bsOf_strOf (digs_fit hd)
  have h := r4parse_ok (w := w) (s := strOf L) (fun k hk => by
    rw [hb]
    rw [strOf_size] at hk
    rw [nth_lt _ _ hk]
    exact hd _ (List.getElem_mem hk)) (by rw [strOf_size]; exact h0) (by rw [strOf_size]; exact hl)
  rw [hb] at h
  exact h
theorem r4p_no {w : World} {L : List Nat} (hf : Fit 256 L) (h : goodB L = false) (hl : L.length ≤ 2000) :
    Calls Tryd.prog 14 #[.string (strOf L)] w (Gives w fun v' _ => v' = .tuple #[.slice none 0 0, .bool false]) := by
  by_cases h0 : L.length = 0
  · exact r4parse_none (by rw [strOf_size]; exact h0)
  · obtain ⟨m, hm, h1, h2⟩ := bad_first h (by omega)
    have hb : bsOf (strOf L) = L := bsOf_strOf hf
    exact r4parse_bad (s := strOf L) (m := m) (by rw [strOf_size]; exact hm) (by rw [hb]; exact h1) (by rw [hb]; exact h2) (by rw [strOf_size]; exact hl)
theorem strOf_from (xs : List Nat) (c n : Nat) (hn : n = xs.length) : (strOf xs).extract c n = strOf (xs.drop c) := by
  subst hn
  unfold strOf
  apply ByteArray.ext
  simp [ByteArray.data_extract]
  exact List.take_of_length_le (by simp)
theorem strOf_upto (xs : List Nat) (n : Nat) : (strOf xs).extract 0 n = strOf (xs.take n) := by
  unfold strOf
  apply ByteArray.ext
  simp [ByteArray.data_extract]
theorem num_bits2 {L : List Nat} (h : goodB L = true) : (bitsOf (numOf L)).length ≤ 4 * L.length + 1 :=
  (bitsOf_len _ _).2 (Nat.lt_trans (numOf_lt L (goodB_iff.1 h).2) (pow10_bits L.length))
end Go.Proofs.YtgajpmcjjefghaaDoor
