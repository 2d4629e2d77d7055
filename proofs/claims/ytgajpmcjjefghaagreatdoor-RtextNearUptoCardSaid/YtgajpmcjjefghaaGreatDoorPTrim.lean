/- strings.TrimLeft at "0" -/
import Derived.Test.YtgajpmcjjefghaaGreatDoorDig
import Derived.Test.YtgajpmcjjefghaaGreatDoorConv
namespace Go.Proofs.YtgajpmcjjefghaaGreatDoor
open Go.RowKit Go.Att

/-- How long a string's value is. -/
def strSz : Value → Nat
  | .string s => s.size
  | _ => 0
theorem strOf_nil : strOf [] = ⟨#[]⟩ := by unfold strOf; rfl
theorem strOf_drop (xs : List Nat) : (strOf xs).extract 1 (strOf xs).size = strOf (xs.drop 1) := by
  unfold strOf
  apply ByteArray.ext
  simp [ByteArray.size, ByteArray.data_extract]
  exact List.take_of_length_le (by simp)
theorem trim0_cons (r : List Nat) : trim0 (48 :: r) = trim0 r := by unfold trim0; rw [List.dropWhile_cons]; simp
theorem trim0_ne {x : Nat} (h : x ≠ 48) (r : List Nat) : trim0 (x :: r) = x :: r := by unfold trim0; rw [List.dropWhile_cons]; simp [h]

theorem trim1_any {w : World} {xs : List Nat} (hf : Fit 256 xs) :
    Calls Tryz.prog 94 #[.string (strOf xs), .int .u8 48] w (Gives w fun v' _ => v' = .string (strOf (trim0 xs))) := by
  refine via fun R hR => ?_
  have HF := Lib.hid hf
  clear hf
  go_enter Tryz.func94, Tryz.ntmps94
  go_wp2_with fail
  go_loopw [0] (fun v wr => ∃ ys : List Nat, wr = w ∧ v = .string (strOf ys) ∧ Hid (Fit 256 ys) ∧ Hid (trim0 ys = trim0 xs)) (fun v _ => strSz v)
  case atStart => exact ⟨xs, rfl, rfl, HF.out, rfl⟩
  case round =>
    obtain ⟨ys, rfl, rfl, hF, hT⟩ := hrel
    cases ys with
    | nil =>
      have e0 : (strOf []).size = 0 := by rw [strOf_size]; rfl
      have hT2 : Hid (([] : List Nat) = trim0 xs) := hT.out
      clear hT
      go_wp2_with fail
      exact hR.out _ _ (Gives.mk (Ext.refl _) (congrArg (fun l => Value.string (strOf l)) hT2.out))
    | cons x r =>
      have hz0 : (strOf (x :: r)).size = r.length + 1 := by rw [strOf_size]; rfl
      have hx0 : ∀ h0 : 0 < (strOf (x :: r)).size, ((strOf (x :: r))[0]'h0).toNat = x := fun h0 => by rw [strOf_at hF.out h0]; simp [nth_lt]
      have hdr := strOf_drop (x :: r)
      rw [List.drop_one, List.tail_cons] at hdr
      have hz1 : (strOf r).size = r.length := strOf_size r
      have hFr : Hid (Fit 256 r) := fun y hy => hF.out y (List.mem_cons_of_mem _ hy)
      obtain ⟨s, hs⟩ : ∃ s, s = strOf (x :: r) := ⟨_, rfl⟩
      obtain ⟨s2, hs2⟩ : ∃ s, s = strOf r := ⟨_, rfl⟩
      rw [← hs] at hz0 hdr hx0 ⊢
      rw [← hs2] at hdr hz1
      have h0 : 0 < s.size := by omega
      have hx1 := hx0 h0
      have HS := Lib.hid hs
      have HS2 := Lib.hid hs2
      have HZ := Lib.hid hz0
      have HZ1 := Lib.hid hz1
      clear hx0 hs hs2 hz0 hz1
      have hlt : (0 : Int) < s.size := by omega
      by_cases hx : x = 48
      · subst hx
        have hc : ((s[0]'h0).toNat : Int) = 48 := by omega
        go_wp2_with fail
        go_roundw
        case rel => exact ⟨r, by simp, by rw [HS2.out], hFr, by show _ = _; rw [← hT.out, trim0_cons]⟩
        case measure => show s2.size < s.size; have := HZ.out; have := HZ1.out; omega
      · have hc : (((s[0]'h0).toNat : Int) == 48) = false := beqF (by omega)
        have hT2 : Hid (strOf (trim0 xs) = s) := by show _ = _; rw [← hT.out, trim0_ne hx, HS.out]
        go_wp2_with fail
        exact hR.out _ _ (Gives.mk (Ext.refl _) (congrArg Value.string hT2.out.symm))

theorem trimleft_any {w : World} {xs : List Nat} (hf : Fit 256 xs) :
    Calls Tryz.prog 79 #[.string (strOf xs), .string ⟨#[48]⟩] w (Gives w fun v' _ => v' = .string (strOf (trim0 xs))) := by
  refine via fun R hR => ?_
  have HF := Lib.hid hf
  cases xs with
  | nil =>
    have e0 : (strOf []).toList.isEmpty = true := by rw [strOf_nil, ByteArray.toList_eq]; rfl
    go_enter Tryz.func79, Tryz.ntmps79
    go_wp2_with fail
    exact hR.out _ _ (Gives.mk (Ext.refl _) rfl)
  | cons x r =>
    have e0 : (strOf (x :: r)).toList.isEmpty = false := by
      rw [ByteArray.toList_eq]
      unfold strOf
      rfl
    clear hf
    obtain ⟨s, hs⟩ : ∃ s, s = strOf (x :: r) := ⟨_, rfl⟩
    rw [← hs] at e0 ⊢
    have HC : Hid (∀ w, Calls Tryz.prog 94 #[.string s, .int .u8 48] w (Gives w fun v' _ => v' = .string (strOf (trim0 (x :: r))))) := fun w => by rw [hs]; exact trim1_any HF.out
    obtain ⟨c, hc⟩ : ∃ c : ByteArray, c = ⟨#[48]⟩ := ⟨_, rfl⟩
    rw [← hc]
    have hc1 : c.toList.isEmpty = false := by rw [hc, ByteArray.toList_eq]; rfl
    have hc2 : c.size = 1 := by rw [hc]; rfl
    have hc3 : (0 : Nat) < c.size := by omega
    have hc4 : (c[0]'hc3).toNat = 48 := by subst hc; rfl
    have hc5 : ((c[0]'hc3).toNat : Int) = 48 := by omega
    clear hs hc
    go_enter Tryz.func79, Tryz.ntmps79
    go_wp2_with fail
    refine (HC.out _).mono ?_
    rintro e w1 ⟨_, rfl, b1, rfl⟩
    go_wp2_with fail
    exact hR.out _ _ (Gives.mk b1 rfl)
end Go.Proofs.YtgajpmcjjefghaaGreatDoor
