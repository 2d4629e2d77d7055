/- digits.Pad, digits.Count -/
import Derived.Test.YtgajpmcjjefghaaGreatDoorRep
import Derived.Test.YtgajpmcjjefghaaGreatDoorPText
namespace Go.Proofs.YtgajpmcjjefghaaGreatDoor
open Go.RowKit Go.Att

theorem rep48 (c : Nat) : (⟨(Lib.repeatL (⟨#[48]⟩ : ByteArray).data.toList c).toArray⟩ : ByteArray) = strOf (List.replicate c 48) := by
  have h : (⟨#[48]⟩ : ByteArray).data.toList = List.replicate 1 (48 : UInt8) := rfl
  rw [h, Lib.repeatL_replicate, Nat.mul_one]
  unfold strOf
  rw [List.map_replicate]
  rfl
theorem rep_any {w : World} (c : Nat) (hc : c ≤ 1000000) :
    Calls Tryz.prog 66 #[.string ⟨#[48]⟩, .int .i64 c] w (Gives w fun v' _ => v' = .string (strOf (List.replicate c 48))) := by
  refine (Tryz.strings_Repeat ⟨#[48]⟩ c w (by omega) (by show 1 * c ≤ _; omega)).mono ?_
  rintro e w' ⟨rfl, b⟩
  rw [rep48]
  exact Gives.mk b rfl
theorem strOf_app (xs ys : List Nat) : strOf (xs ++ ys) = strOf xs ++ strOf ys := by
  unfold strOf
  apply ByteArray.ext
  simp
/-- The text, padded. -/
def padded (n : Int) (l : List Nat) : List Nat := List.replicate (n.toNat - l.length) 48 ++ l
theorem pad_neg {w : World} {v : Value} {n : Int} (hn : n < 0) :
    Calls Tryz.prog 42 #[v, .int .i64 n] w (Gives w fun v' _ => v' = .tuple #[.string ⟨#[]⟩, .int .i64 1]) := by
  refine via fun R hR => ?_
  have hd := decide_eq_true hn
  go_enter Tryz.func42, Tryz.ntmps42
  go_wp2_with fail
  exact hR.out _ _ (Gives.mk (Ext.refl _) rfl)
theorem pad_big {w : World} {v : Value} {n : Int} (hn : 20000 < n) :
    Calls Tryz.prog 42 #[v, .int .i64 n] w (Gives w fun v' _ => v' = .tuple #[.string ⟨#[]⟩, .int .i64 2]) := by
  refine via fun R hR => ?_
  have hd := decide_eq_true hn
  have hd0 : decide (n < 0) = false := decide_eq_false (by omega)
  go_enter Tryz.func42, Tryz.ntmps42
  go_wp2_with fail
  exact hR.out _ _ (Gives.mk (Ext.refl _) rfl)
theorem pad_any {w : World} {v : Value} {xs : List Nat} {n : Int} (h0 : 0 ≤ n) (h1 : n ≤ 20000) (hv : RdL w v xs) (hl : xs.length ≤ 1000) :
    Calls Tryz.prog 42 #[v, .int .i64 n] w (Gives w fun v' _ => v' = .tuple #[.string (strOf (padded n (dtext (nv xs)))), .int .i64 0]) := by
  refine via fun R hR => ?_
  have HV := Lib.hid hv
  have HL := Lib.hid hl
  obtain ⟨m, rfl⟩ := Int.eq_ofNat_of_zero_le h0
  have HD : Hid ((dtext (nv xs)).length ≤ 32000) := by
    show _ ≤ _
    have hp := dtext_len_le (n := nv xs) (k := 10 * xs.length + 1) (Nat.lt_of_lt_of_le (val_lt (by decide) hv.2) (by
      rw [show (W32 : Nat) ^ xs.length = W32 ^ xs.length from rfl]
      refine Nat.le_trans (Nat.pow_le_pow_left (show W32 ≤ 10 ^ 10 by decide) _) ?_
      rw [← Nat.pow_mul]
      exact Nat.pow_le_pow_right (by decide) (by omega))) (by omega)
    omega
  clear hv hl h0
  have hd0 : decide ((m : Int) < 0) = false := decide_eq_false (by omega)
  have hd1 : decide (20000 < (m : Int)) = false := decide_eq_false (by omega)
  go_enter Tryz.func42, Tryz.ntmps42
  go_wp2_with fail
  refine (text_any HV.out (by have := HL.out; omega)).mono ?_
  rintro e w1 ⟨_, rfl, b1, rfl⟩
  have HZ : Hid ((strOf (dtext (nv xs))).size = (dtext (nv xs)).length) := strOf_size _
  unfold padded at hR
  rw [Int.toNat_natCast] at hR
  generalize dtext (nv xs) = D at *
  have hz := HZ.out
  have hDl := HD.out
  by_cases hlt : D.length < m
  · have hcs : ¬ ((strOf (List.replicate (m - D.length) 48)).size + (strOf D).size > 9223372036854775807) := by
      rw [strOf_size, strOf_size, List.length_replicate]
      have := HD.out
      omega
    have HR1 : Hid (∀ w : World, Calls Tryz.prog 66 #[.string ⟨#[48]⟩, .int .i64 ((m : Int) - (D.length : Int))] w (Gives w fun v' _ => v' = .string (strOf (List.replicate (m - D.length) 48)))) := fun w => by
      rw [show (m : Int) - (D.length : Int) = ((m - D.length : Nat) : Int) by omega]
      exact rep_any _ (by omega)
    rw [strOf_app] at hR
    generalize strOf D = S at *
    generalize strOf (List.replicate (m - D.length) 48) = S2 at *
    clear HD HZ
    go_wp2_with fail
    refine (HR1.out _).mono ?_
    rintro e w2 ⟨_, rfl, b2, rfl⟩
    go_wp2_with fail
    exact hR.out _ _ (Gives.mk (Ext.trans b1 b2) rfl)
  · rw [show m - D.length = 0 by omega, List.replicate_zero, List.nil_append] at hR
    generalize strOf D = S at *
    go_wp2_with fail
    exact hR.out _ _ (Gives.mk b1 rfl)
end Go.Proofs.YtgajpmcjjefghaaGreatDoor
