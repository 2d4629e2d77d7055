/- attestlaw05.bytes, attestlaw05.whole -/
import Derived.Test.YtjnbhinjpinkaaaConv
import Derived.Test.YtjnbhinjpinkaaaRefAll
namespace Go.Proofs.Ytjnbhinjpinkaaa
open Go.RowKit Go.Att

theorem byte_inner5 {o : List Bool} {xs : List Nat} {k x i ww : Nat} (hol : o.length = 8 * k + i) (hinv : bval o = val 256 (xs.take k) + 2 ^ (8 * k) * (x % 2 ^ i)) (hw : ww = x / 2 ^ i) :
    bval (o ++ [ww % 2 == 1]) = val 256 (xs.take k) + 2 ^ (8 * k) * (x % 2 ^ (i + 1)) := by
  rw [bval_snoc, hinv, bit_toNat, hol, hw, Nat.pow_succ, Nat.mod_mul, Nat.mul_add, Nat.pow_add]
  simp only [Nat.mul_assoc, Nat.add_assoc]
theorem byte_outer5 {xs : List Nat} {k : Nat} (h : nth xs k < 256) : val 256 (xs.take k) + 2 ^ (8 * k) * (nth xs k % 2 ^ 8) = val 256 (xs.take (k + 1)) := by
  rw [val_take_succ, show (2 : Nat) ^ (8 * k) = 256 ^ k by rw [Nat.pow_mul], Nat.mod_eq_of_lt (by omega)]

theorem bytes_any {w : World} {bs : List Nat} (hf : Fit 256 bs) (hl : bs.length ≤ 1048576) :
    Calls Try.prog 45 #[.string (strOf bs)] w (Gives w fun v' w' => OwnB 4 w.heap.size w' v' (bitsOf (val 256 bs))) := by
  refine via fun R hR => ?_
  obtain ⟨s, hs⟩ : ∃ s, s = strOf bs := ⟨_, rfl⟩
  have hsz : s.size = bs.length := by rw [hs, strOf_size]
  have HAT : Hid (∀ i (h : i < s.size), (s[i]'h).toNat = nth bs i) := fun i h => by subst hs; exact strOf_at hf h
  rw [← hs]
  clear hs
  have HF := Lib.hid hf
  clear hf
  go_enter Try.func45, Try.ntmps45
  go_wp2
  go_loopw [3, 4, 5, 6] (fun b i _ _ wr => ∃ (k : Nat) (o : List Bool), i = .int .i64 k ∧ k ≤ bs.length ∧ o.length = 8 * k ∧ Hid (OwnB 4 w.heap.size wr b o) ∧ Hid (bval o = val 256 (bs.take k)) ∧ Ext w wr) (fun _ i _ _ _ => bs.length - (intOf i).toNat)
  case atStart => exact ⟨0, [], rfl, Nat.zero_le _, rfl, World.ownsRow_lit w #[] 0 (Nat.le_refl _) (Nat.zero_le _) rfl, by simp [Hid, val, bval_nil], Ext.alloc _ _⟩
  case round =>
    obtain ⟨k, o, rfl, hk, hol, hO, hinv, hbel⟩ := hrel
    have hsw := hbel.size
    by_cases hlt : k < bs.length
    · have hkz : k < s.size := by omega
      have hkz' : (k : Int) < s.size := by omega
      obtain ⟨x, hx⟩ : ∃ x : UInt8, s[k]'hkz = x := ⟨_, rfl⟩
      have hxn : Hid (x.toNat = nth bs k) := by show _ = _; rw [← hx]; exact HAT.out k hkz
      have hxl : x.toNat ≤ 255 := by have := HF.out.nth (by decide) k; have := hxn.out; omega
      go_wp2
      obtain ⟨wo, rfl⟩ : ∃ wo : World, wo = wr := ⟨_, rfl⟩
      clear hx
      go_loopw [3, 5, 6] (fun b c i wr => ∃ (n : Nat) (o : List Bool) (ww : Nat), i = .int .i64 n ∧ n ≤ 8 ∧ o.length = 8 * k + n ∧ c = .int .u8 ww ∧ ww ≤ 255 ∧ Hid (ww = nth bs k / 2 ^ n) ∧ Hid (OwnB 4 w.heap.size wr b o) ∧ Hid (bval o = val 256 (bs.take k) + 2 ^ (8 * k) * (nth bs k % 2 ^ n)) ∧ Ext w wr) (fun _ _ i _ => 8 - (intOf i).toNat)
      case atStart => exact ⟨0, o, x.toNat, rfl, by omega, by omega, rfl, by omega, by show _ = _; rw [hxn.out]; simp, hO, by simp [Hid, Nat.mod_one]; exact hinv.out, hbel⟩
      case round =>
        obtain ⟨n, o2, ww, rfl, hn, hol2, rfl, hww, hw2, hO2, hinv2, hbel2⟩ := hrel
        have hsz2 := hbel2.size
        clear hbel hsw
        by_cases hlt2 : n < 8
        · go_wp2_with (at_builtin; refine append_rd etB rfl _ _ rfl w.heap.size rfl (Ext.owns (Ext.alloc _ _) hO2.out) rfl (RdV.lit _ _ _ _ 1 rfl (by unfold maxLen; omega)) (by intro u hu; simp at hu; subst hu; rfl) (by omega) (by unfold maxLen; omega) (by simp; omega) ?_)
          intro v2 w2 ho2 hb2 _
          have HO2 := Lib.hid ho2
          clear ho2
          go_wp2
          go_roundw
          case rel => exact ⟨n + 1, o2 ++ [ww % 2 == 1], ww / 2, by go_num, by omega, by simp; omega, by go_num, by omega, by show _ = _; rw [hw2.out, Nat.pow_succ, Nat.div_div_eq_div_mul], OwnB.snoc HO2.out (by omega) (bit_dec ww), byte_inner5 hol2 hinv2.out hw2.out, Below.trans (Below.alloc hbel2 hsz2 _) hb2⟩
          case measure => simp [intOf] <;> omega
        · have FA := HF.out.nth (by decide) k
          go_wp2
          go_roundw
          case rel =>
            obtain rfl : n = 8 := by omega
            exact ⟨k + 1, o2, by go_num, by omega, by omega, hO2, by rw [← byte_outer5 FA]; exact hinv2.out, hbel2⟩
          case measure => simp [intOf] <;> omega
    · have E : Hid (bval o = val 256 bs) := by
        show _ = _
        have h := hinv.out
        rw [val_take_ge _ _ _ (by omega)] at h
        exact h
      have hkz' : ¬ (k : Int) < s.size := by omega
      go_wp2_with fail
      refine (CutOwn hO.out).mono ?_
      rintro e w3 ⟨v3, rfl, rfl, o3⟩
      go_wp2_with fail
      exact hR.out _ _ (Gives.mk hbel (E.out ▸ o3))

theorem whole5_any {w : World} {bs : List Nat} (hf : Fit 256 bs) (h : bs.length = 0 ∨ nth bs (bs.length - 1) ≠ 0) (hl : bs.length ≤ 1048576) :
    Calls Try.prog 46 #[.string (strOf bs)] w (Gives w fun v' _ => v' = .bool true) := by
  refine via fun R hR => ?_
  obtain ⟨s, hs⟩ : ∃ s, s = strOf bs := ⟨_, rfl⟩
  have hsz : s.size = bs.length := by rw [hs, strOf_size]
  have HAT : Hid (∀ i (h : i < s.size), (s[i]'h).toNat = nth bs i) := fun i h => by subst hs; exact strOf_at hf h
  rw [← hs]
  clear hs hf
  by_cases hn : bs.length = 0
  · have e0 : s.size = 0 := by omega
    clear HAT h hn hsz hl
    go_enter Try.func46, Try.ntmps46
    go_wp2_with fail
    exact hR.out _ _ (Gives.mk (Ext.refl _) rfl)
  · obtain ⟨n, hn2⟩ : ∃ n, s.size = n + 1 := ⟨s.size - 1, by omega⟩
    have hk : n < s.size := by omega
    obtain ⟨x, hx⟩ : ∃ x : UInt8, s[n]'hk = x := ⟨_, rfl⟩
    have hxn : ((x.toNat : Int) != 0) = true := bneT (by
      have h1 := HAT.out _ hk
      rw [hx] at h1
      rcases h with h | h
      · exact absurd h hn
      · rw [show bs.length - 1 = n by omega] at h
        omega)
    have hw : wrap64 (n : Int) = n := by unfold wrap64; omega
    have e0 : (((n : Int) + 1) == 0) = false := beqF (by omega)
    have hz : (n : Int) < (n : Int) + 1 := by omega
    clear HAT h hn hsz hl
    go_enter Try.func46, Try.ntmps46
    go_wp2_with fail
    exact hR.out _ _ (Gives.mk (Ext.refl _) rfl)
end Go.Proofs.Ytjnbhinjpinkaaa
