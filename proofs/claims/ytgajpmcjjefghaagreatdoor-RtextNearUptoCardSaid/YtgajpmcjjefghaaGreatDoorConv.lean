/- strings made of bytes: what 'string(b)' gives -/
import Derived.Test.YtgajpmcjjefghaaGreatDoorLimbAll
import Derived.Laws.IdiomStrings
namespace Go.Proofs.YtgajpmcjjefghaaGreatDoor
open Go.RowKit Go.Att

/-- The string of these bytes. -/
@[irreducible] def strOf (xs : List Nat) : ByteArray := ⟨(xs.map UInt8.ofNat).toArray⟩
theorem strOf_size (xs : List Nat) : (strOf xs).size = xs.length := by unfold strOf; show (List.toArray _).size = _; simp
theorem strOf_inj {xs ys : List Nat} (hx : Fit 256 xs) (hy : Fit 256 ys) (h : strOf xs = strOf ys) : xs = ys := by
  have h1 : xs.map UInt8.ofNat = ys.map UInt8.ofNat := by
    unfold strOf at h
    have := congrArg (fun b : ByteArray => b.data.toList) h
    simpa using this
  have h2 := congrArg (List.map UInt8.toNat) h1
  simp only [List.map_map] at h2
  have e : ∀ zs : List Nat, Fit 256 zs → zs.map (UInt8.toNat ∘ UInt8.ofNat) = zs := fun zs hz => by
    conv => rhs; rw [← List.map_id zs]
    refine List.map_congr_left fun x hx => ?_
    have := hz x hx
    simp
    omega
  rw [e xs hx, e ys hy] at h2
  exact h2
theorem strOf_at {xs : List Nat} (hx : Fit 256 xs) {i : Nat} (h : i < (strOf xs).size) : ((strOf xs)[i]'h).toNat = nth xs i := by
  have hi : i < xs.length := by rw [strOf_size] at h; exact h
  have e : (strOf xs)[i]'h = UInt8.ofNat xs[i] := by
    unfold strOf
    have h' : i < ((xs.map UInt8.ofNat).toArray).size := by simpa using hi
    exact (show (⟨(xs.map UInt8.ofNat).toArray⟩ : ByteArray)[i]'_ = ((xs.map UInt8.ofNat).toArray)[i]'h' from rfl).trans (by simp)
  rw [e, nth_lt xs i hi]
  have := hx _ (List.getElem_mem hi)
  simp
  omega

theorem conv_bytes {P : Program} {w : World} {src dst e : TypeId} {v : Value} {xs : List Nat} (hs : P.underlying src = some (.slice e)) (he : P.underlying e = some (.int .u8)) (hd : P.underlying dst = some .string)
    (h : RdI .u8 w v xs) (hf : Fit 256 xs) : (convert src dst v).run P w = .ok (.string (strOf xs)) w := by
  obtain ⟨h0, a, cap, rfl, h1, h2, h3, h5⟩ := h
  unfold strOf
  cases a with
  | none =>
    have hc := h3 rfl
    have hx : xs = [] := List.eq_nil_of_length_eq_zero (by omega)
    subst hx
    rw [run_convert_bytes_string w src dst e none _ cap hs he hd]
    unfold Conv.bytesToString
    simp [go_sem]
    rfl
  | some a =>
    have := run_convert_bytes_back w src dst e a cap (xs.map UInt8.ofNat) hs he hd (fun j hj => by
      have hj' : j < xs.length := by simpa using hj
      obtain ⟨b, off, ha, hc⟩ := h5 j (by rw [len_ints]; exact hj')
      obtain rfl : a = ⟨b, off, none⟩ := by simpa using ha
      have e1 : ((xs.map UInt8.ofNat)[j]'hj).toNat = nth xs j := by
        have := hf _ (List.getElem_mem hj')
        simp [nth_lt xs j hj']
        omega
      rw [e1, ← at_ints .u8 xs j hj', ← hc]
      unfold Addr.add
      split
      · rename_i h; subst h; rfl
      · rfl)
    simpa using this
end Go.Proofs.YtgajpmcjjefghaaGreatDoor
