/- digits.Parse -/
import Derived.Test.YtgajpmcjjefghaaGreatDoorDig
import Derived.Test.YtgajpmcjjefghaaGreatDoorPGrow
import Derived.Laws.RangeAny
import Derived.Lib.OthersKept
namespace Go.Proofs.YtgajpmcjjefghaaGreatDoor
open Go.RowKit Go.Att

/-- A string's bytes. -/
@[irreducible] def bsOf (s : ByteArray) : List Nat := s.data.toList.map UInt8.toNat
theorem bsOf_len (s : ByteArray) : (bsOf s).length = s.size := by unfold bsOf; show _ = s.data.size; simp
theorem bsOf_at (s : ByteArray) (i : Nat) (h : i < s.size) : (s[i]'h).toNat = nth (bsOf s) i := by
  have e : bsOf s = s.data.toList.map UInt8.toNat := by unfold bsOf; rfl
  have hi : i < (s.data.toList.map UInt8.toNat).length := by rw [← e, bsOf_len]; exact h
  rw [e, nth_lt _ _ hi, List.getElem_map]
  rfl
theorem numOf_take {bs : List Nat} {k : Nat} (h : k < bs.length) : numOf (bs.take (k + 1)) = 10 * numOf (bs.take k) + (nth bs k - 48) := by
  rw [← List.take_append_getElem h, numOf_snoc, nth_lt _ _ h]
theorem iterPos_of {w : World} {k : Nat} {s : ByteArray} {p : Nat} (h : w.heap[k]? = some (.stringIter s p)) : w.iterPos k = p := by simp [World.iterPos, h]
theorem owns_iterAt {w : World} {base : Nat} {e : TypeId} {size : Nat} {v : Value} {n : Nat} {xs : List Value} (h : w.ownsRow base e size v n xs) {k : Nat} (hk : k < base) (s : ByteArray) (p : Nat) : (w.iterAt k s p).ownsRow base e size v n xs := by
  obtain ⟨h1, h2⟩ := h
  refine ⟨h1, ?_⟩
  rcases h2 with h2 | ⟨g, cap, cur, a, b, c, d⟩
  · exact .inl h2
  · exact .inr ⟨g, cap, cur, a, b, by rw [Lib.iterAt_other _ _ _ _ _ (by omega)]; exact c, d⟩
theorem size_iterAt (w : World) (k : Nat) (s : ByteArray) (p : Nat) : (w.iterAt k s p).heap.size = w.heap.size := by simp [World.iterAt]

theorem str_ne {s : ByteArray} (h0 : 0 < s.size) : s.toList.isEmpty = false := by
  rw [ByteArray.toList_eq]
  obtain ⟨⟨l⟩⟩ := s
  cases l with
  | nil => exact absurd h0 (by decide)
  | cons x l => rfl
theorem parse_ok {w : World} {s : ByteArray} (hd : ∀ k, k < s.size → 48 ≤ nth (bsOf s) k ∧ nth (bsOf s) k ≤ 57) (h0 : 0 < s.size) (hs : s.size ≤ 20000) :
    Calls Tryz.prog 39 #[.string s] w (Gives w fun v' w' => ∃ v, v' = .tuple #[v, .int .i64 0] ∧ OwnL 57 w.heap.size w' v (limbs (numOf (bsOf s)))) := by
  refine via fun R hR => ?_
  have HD := Lib.hid hd
  have hne := str_ne h0
  have hlen : decide ((20000 : Int) < s.size) = false := decide_eq_false (by omega)
  clear hd
  go_enter Tryz.func39, Tryz.ntmps39
  go_wp2_with fail
  go_loopw [4] (fun v wr => ∃ (pos : Nat) (xs : List Nat), wr.heap[w.heap.size]? = some (.stringIter s pos) ∧ pos ≤ s.size ∧ Hid (OwnL 57 (w.heap.size + 1) wr v xs) ∧ Below w.heap.size w wr ∧ Hid (nv xs = numOf ((bsOf s).take pos)) ∧ xs.length ≤ pos ∧ w.heap.size + 1 ≤ wr.heap.size) (fun _ wr => s.size - wr.iterPos w.heap.size)
  case atStart => exact ⟨0, [], World.iter_heap w s 0, Nat.zero_le _, ⟨⟨by simp [ints], .inl ⟨rfl, rfl⟩⟩, Fit.nil _⟩, (Below.refl _ _).alloc (Nat.le_refl _) _, by show _ = _; rw [List.take_zero]; rfl, Nat.le_refl _, by simp [World.iter]⟩
  case round =>
    obtain ⟨pos, xs, hit, hpos, hO, hbw, hinv, hxl, hz⟩ := hrel
    by_cases hp : pos < s.size
    · have hpm := hp
      have hx : Hid ((s[pos]'hp).toNat = nth (bsOf s) pos) := bsOf_at s pos hp
      obtain ⟨x, hxe⟩ : ∃ x : Nat, (s[pos]'hp).toNat = x := ⟨_, rfl⟩
      have hx1 : 48 ≤ x := by have := (HD.out pos hpm).1; have := hx.out; omega
      have hx2 : x ≤ 57 := by have := (HD.out pos hpm).2; have := hx.out; omega
      have hnx : ∀ ty, (Instr.next (.pointer (some ⟨w.heap.size, 0, none⟩)) true ty).run Tryz.prog wr = _ := fun ty => Lib.run_next_ascii_at wr w.heap.size s pos ty hit (by omega) (by omega)
      rw [hxe] at hnx
      have hit2 := Lib.iterAt_heap wr w.heap.size s pos (pos + 1) hit
      have hbw2 := Lib.below_iterAt hbw (k := w.heap.size) (Nat.le_refl _) s (pos + 1)
      have hown2 : Hid (OwnL 57 (w.heap.size + 1) (wr.iterAt w.heap.size s (pos + 1)) _ xs) := ⟨owns_iterAt hO.out.1 (Nat.lt_succ_self _) s (pos + 1), hO.out.2⟩
      have hz2 : w.heap.size + 1 ≤ (wr.iterAt w.heap.size s (pos + 1)).heap.size := by rw [size_iterAt]; exact hz
      obtain ⟨W1, hW1⟩ : ∃ W1, W1 = wr.iterAt w.heap.size s (pos + 1) := ⟨_, rfl⟩
      rw [← hW1] at hnx hit2 hbw2 hown2 hz2
      have HX := Lib.hid (hxe.symm.trans hx.out)
      clear hW1 hxe hx
      have HIT := Lib.hid hit2
      have hc1 : decide ((x : Int) < 48) = false := decide_eq_false (by omega)
      have hc2 : decide ((57 : Int) < x) = false := decide_eq_false (by omega)
      have hc3 : ((x : Int) - 48) % 4294967296 = (x - 48 : Nat) := by omega
      have HP0 := Lib.hid (iterPos_of hit)
      clear hit hbw hO hz hit2
      go_wp2_with fail
      clear hnx
      refine (grow_to (b := 10) (more := x - 48) rfl (by omega) hown2.out hz2 (by decide) (by omega) (by omega)).mono ?_
      rintro e W2 ⟨v2, ys, rfl, hO3, hb3, hn3, hl3, -⟩
      have hO4 := Lib.hid hO3
      have HN3 := Lib.hid hn3
      have hit3 : W2.heap[w.heap.size]? = some (.stringIter s (pos + 1)) := by rw [hb3.block _ (Nat.lt_succ_self _)]; exact HIT.out
      have hbw3 : Below w.heap.size w W2 := Below.trans hbw2 (Below.mono hb3 (Nat.le_succ _))
      have hz3 : w.heap.size + 1 ≤ W2.heap.size := Nat.le_trans hz2 (Below.size hb3)
      clear hO3 hn3 hb3
      go_wp2
      go_roundw
      case rel => exact ⟨pos + 1, ys, hit3, by omega, hO4, hbw3, by show _ = _; rw [HN3.out, hinv.out, numOf_take (by rw [bsOf_len]; exact hp), ← HX.out]; omega, by omega, hz3⟩
      case measure =>
        have h1 := HP0.out
        rw [iterPos_of hit3, h1]
        omega
    · have hnx : ∀ ty, (Instr.next (.pointer (some ⟨w.heap.size, 0, none⟩)) true ty).run Tryz.prog wr = _ := fun ty => Lib.run_next_end_at wr w.heap.size s pos ty hit hp
      have E : Hid (nv xs = numOf (bsOf s)) := by
        show _ = _
        have h := hinv.out
        rw [List.take_of_length_le (by rw [bsOf_len]; omega)] at h
        exact h
      clear hit
      go_wp2_with fail
      clear hnx
      refine (norm_any hO.out.rd (by omega)).mono ?_
      rintro e w3 ⟨v3, rfl, b3, o3⟩
      rw [E.out] at o3
      have O3 := Lib.hid o3
      clear o3
      go_wp2_with fail
      exact hR.out _ _ (Gives.mk (Below.trans hbw (Below.mono b3 (by omega))) ⟨_, rfl, O3.out.mono (by omega)⟩)

theorem parse_bad {w : World} {s : ByteArray} {m : Nat} (hm : m < s.size) (hd : ∀ k, k < m → 48 ≤ nth (bsOf s) k ∧ nth (bsOf s) k ≤ 57) (hb : ¬ (48 ≤ nth (bsOf s) m ∧ nth (bsOf s) m ≤ 57)) (hs : s.size ≤ 20000) :
    Calls Tryz.prog 39 #[.string s] w (Gives w fun v' _ => v' = .tuple #[.slice none 0 0, .int .i64 3]) := by
  refine via fun R hR => ?_
  have HD := Lib.hid hd
  have HB := Lib.hid hb
  have hne := str_ne (Nat.lt_of_le_of_lt (Nat.zero_le m) hm)
  have hlen : decide ((20000 : Int) < s.size) = false := decide_eq_false (by omega)
  clear hd hb
  go_enter Tryz.func39, Tryz.ntmps39
  go_wp2_with fail
  go_loopw [4] (fun v wr => ∃ (pos : Nat) (xs : List Nat), wr.heap[w.heap.size]? = some (.stringIter s pos) ∧ pos ≤ m ∧ Hid (OwnL 57 (w.heap.size + 1) wr v xs) ∧ Below w.heap.size w wr ∧ Hid (nv xs = numOf ((bsOf s).take pos)) ∧ xs.length ≤ pos ∧ w.heap.size + 1 ≤ wr.heap.size) (fun _ wr => s.size - wr.iterPos w.heap.size)
  case atStart => exact ⟨0, [], World.iter_heap w s 0, Nat.zero_le _, ⟨⟨by simp [ints], .inl ⟨rfl, rfl⟩⟩, Fit.nil _⟩, (Below.refl _ _).alloc (Nat.le_refl _) _, by show _ = _; rw [List.take_zero]; rfl, Nat.le_refl _, by simp [World.iter]⟩
  case round =>
    obtain ⟨pos, xs, hit, hpos, hO, hbw, hinv, hxl, hz⟩ := hrel
    have hp : pos < s.size := by omega
    by_cases hpm : pos < m
    · skip
      have hx : Hid ((s[pos]'hp).toNat = nth (bsOf s) pos) := bsOf_at s pos hp
      obtain ⟨x, hxe⟩ : ∃ x : Nat, (s[pos]'hp).toNat = x := ⟨_, rfl⟩
      have hx1 : 48 ≤ x := by have := (HD.out pos hpm).1; have := hx.out; omega
      have hx2 : x ≤ 57 := by have := (HD.out pos hpm).2; have := hx.out; omega
      have hnx : ∀ ty, (Instr.next (.pointer (some ⟨w.heap.size, 0, none⟩)) true ty).run Tryz.prog wr = _ := fun ty => Lib.run_next_ascii_at wr w.heap.size s pos ty hit (by omega) (by omega)
      rw [hxe] at hnx
      have hit2 := Lib.iterAt_heap wr w.heap.size s pos (pos + 1) hit
      have hbw2 := Lib.below_iterAt hbw (k := w.heap.size) (Nat.le_refl _) s (pos + 1)
      have hown2 : Hid (OwnL 57 (w.heap.size + 1) (wr.iterAt w.heap.size s (pos + 1)) _ xs) := ⟨owns_iterAt hO.out.1 (Nat.lt_succ_self _) s (pos + 1), hO.out.2⟩
      have hz2 : w.heap.size + 1 ≤ (wr.iterAt w.heap.size s (pos + 1)).heap.size := by rw [size_iterAt]; exact hz
      obtain ⟨W1, hW1⟩ : ∃ W1, W1 = wr.iterAt w.heap.size s (pos + 1) := ⟨_, rfl⟩
      rw [← hW1] at hnx hit2 hbw2 hown2 hz2
      have HX := Lib.hid (hxe.symm.trans hx.out)
      clear hW1 hxe hx
      have HIT := Lib.hid hit2
      have hc1 : decide ((x : Int) < 48) = false := decide_eq_false (by omega)
      have hc2 : decide ((57 : Int) < x) = false := decide_eq_false (by omega)
      have hc3 : ((x : Int) - 48) % 4294967296 = (x - 48 : Nat) := by omega
      have HP0 := Lib.hid (iterPos_of hit)
      clear hit hbw hO hz hit2
      go_wp2_with fail
      clear hnx
      refine (grow_to (b := 10) (more := x - 48) rfl (by omega) hown2.out hz2 (by decide) (by omega) (by omega)).mono ?_
      rintro e W2 ⟨v2, ys, rfl, hO3, hb3, hn3, hl3, -⟩
      have hO4 := Lib.hid hO3
      have HN3 := Lib.hid hn3
      have hit3 : W2.heap[w.heap.size]? = some (.stringIter s (pos + 1)) := by rw [hb3.block _ (Nat.lt_succ_self _)]; exact HIT.out
      have hbw3 : Below w.heap.size w W2 := Below.trans hbw2 (Below.mono hb3 (Nat.le_succ _))
      have hz3 : w.heap.size + 1 ≤ W2.heap.size := Nat.le_trans hz2 (Below.size hb3)
      clear hO3 hn3 hb3
      go_wp2
      go_roundw
      case rel => exact ⟨pos + 1, ys, hit3, by omega, hO4, hbw3, by show _ = _; rw [HN3.out, hinv.out, numOf_take (by rw [bsOf_len]; exact hp), ← HX.out]; omega, by omega, hz3⟩
      case measure =>
        have h1 := HP0.out
        rw [iterPos_of hit3, h1]
        omega
    · obtain rfl : pos = m := by omega
      have hnx : ∀ ty, (Instr.next (.pointer (some ⟨w.heap.size, 0, none⟩)) true ty).run Tryz.prog wr = _ := fun ty => Lib.run_next_any_at wr w.heap.size s pos ty hit hp
      have hbad : (Utf8.decode s pos).1 < 48 ∨ ¬ (Utf8.decode s pos).1 < 48 ∧ 57 < (Utf8.decode s pos).1 := by
        have h1 := bsOf_at s pos hp
        have h2 := HB.out
        by_cases h3 : (s[pos]'hp).toNat < 128
        · rw [decode_ascii s pos hp h3]
          show (s[pos]'hp).toNat < 48 ∨ _
          omega
        · have := (decode_high s pos hp (by omega)).1
          omega
      obtain ⟨u, hu⟩ : ∃ u, (Utf8.decode s pos).1 = u := ⟨_, rfl⟩
      obtain ⟨u2, hu2⟩ : ∃ u, (Utf8.decode s pos).2 = u := ⟨_, rfl⟩
      rw [hu] at hbad
      rw [hu, hu2] at hnx
      have hbw2 := Lib.below_iterAt hbw (k := w.heap.size) (Nat.le_refl _) s (pos + u2)
      obtain ⟨W1, hW1⟩ : ∃ W1, W1 = wr.iterAt w.heap.size s (pos + u2) := ⟨_, rfl⟩
      rw [← hW1] at hnx hbw2
      clear hW1 hu hu2 hit
      rcases hbad with h1 | ⟨h1, h2⟩
      · have hc1 : decide ((u : Int) < 48) = true := decide_eq_true (by omega)
        go_wp2_with fail
        exact hR.out _ _ (Gives.mk hbw2 rfl)
      · have hc1 : decide ((u : Int) < 48) = false := decide_eq_false (by omega)
        have hc2 : decide ((57 : Int) < u) = true := decide_eq_true (by omega)
        go_wp2_with fail
        exact hR.out _ _ (Gives.mk hbw2 rfl)

theorem parse_none {w : World} {s : ByteArray} (h0 : s.size = 0) :
    Calls Tryz.prog 39 #[.string s] w (Gives w fun v' _ => v' = .tuple #[.slice none 0 0, .int .i64 3]) := by
  refine via fun R hR => ?_
  have hne : s.toList.isEmpty = true := by
    rw [ByteArray.toList_eq]
    obtain ⟨⟨l⟩⟩ := s
    cases l with
    | nil => rfl
    | cons x l => cases h0
  go_enter Tryz.func39, Tryz.ntmps39
  go_wp2_with fail
  exact hR.out _ _ (Gives.mk (Ext.refl _) rfl)
theorem parse_big {w : World} {s : ByteArray} (h0 : 20000 < s.size) :
    Calls Tryz.prog 39 #[.string s] w (Gives w fun v' _ => v' = .tuple #[.slice none 0 0, .int .i64 2]) := by
  refine via fun R hR => ?_
  have hlen : decide ((20000 : Int) < s.size) = true := decide_eq_true (by omega)
  go_enter Tryz.func39, Tryz.ntmps39
  go_wp2_with fail
  exact hR.out _ _ (Gives.mk (Ext.refl _) rfl)
end Go.Proofs.YtgajpmcjjefghaaGreatDoor
