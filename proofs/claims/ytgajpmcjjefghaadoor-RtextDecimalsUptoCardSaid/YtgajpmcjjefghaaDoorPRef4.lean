/- attestref04.Parse; attestlaw04.awake -/
import Derived.Test.YtgajpmcjjefghaaDoorPTens
namespace Go.Proofs.YtgajpmcjjefghaaDoor
open Go.RowKit Go.Att

theorem bits_nil0 : bitsOf 0 = [] := List.eq_nil_of_length_eq_zero (Nat.le_zero.1 ((bitsOf_len 0 0).2 (by decide)))
theorem numOf_lt (bs : List Nat) (h : Digs bs) : numOf bs < 10 ^ bs.length := by
  generalize hn : bs.length = n
  induction n generalizing bs with
  | zero => rw [List.eq_nil_of_length_eq_zero hn]; decide
  | succ n ih =>
    have hne : bs ≠ [] := fun h => by rw [h] at hn; simp at hn
    have e := List.dropLast_concat_getLast hne
    have h1 := ih bs.dropLast (fun x hx => h x (List.dropLast_subset _ hx)) (by simp [hn])
    have h2 := h _ (List.getLast_mem hne)
    rw [← e, numOf_snoc, Nat.pow_succ]
    omega
theorem digs_take {bs : List Nat} {k : Nat} (h : ∀ i, i < k → 48 ≤ nth bs i ∧ nth bs i ≤ 57) : Digs (bs.take k) := fun x hx => by
  obtain ⟨i, hi, rfl⟩ := List.mem_iff_getElem.1 hx
  rw [List.length_take] at hi
  have := h i (by omega)
  rw [nth_lt _ _ (by omega)] at this
  rw [List.getElem_take]
  exact this

theorem num_bits {bs : List Nat} {k : Nat} (h : ∀ i, i < k → 48 ≤ nth bs i ∧ nth bs i ≤ 57) : (bitsOf (numOf (bs.take k))).length ≤ 4 * k + 1 := by
  have h1 := numOf_lt _ (digs_take h)
  have h2 : 10 ^ (bs.take k).length ≤ 10 ^ k := Nat.pow_le_pow_right (by decide) (by rw [List.length_take]; exact Nat.min_le_left _ _)
  have h3 := pow10_bits k
  exact bits_lt (by omega)

theorem wrap8 {n : Nat} (h1 : 48 ≤ n) (h2 : n ≤ 57) : IntKind.u64.wrap (IntKind.u8.wrap ((n : Int) - 48)) = ((n - 48 : Nat) : Int) := by
  have e1 : IntKind.u8.wrap ((n : Int) - 48) = (n : Int) - 48 := by
    show ((n : Int) - 48) % 256 = _
    omega
  rw [e1]
  show ((n : Int) - 48) % 18446744073709551616 = _
  omega
theorem mul10_bits (N : Nat) : (bitsOf (N * 10)).length ≤ (bitsOf N).length + 4 := by
  have h := (bitsOf_len N _).1 (Nat.le_refl (bitsOf N).length)
  refine bits_lt ?_
  rw [Nat.pow_add]
  omega
set_option maxHeartbeats 1000000 in
set_option maxRecDepth 100000 in
set_option linter.unusedSimpArgs false in
theorem r4parse_ok {w : World} {s : ByteArray} (hd : ∀ k, k < s.size → 48 ≤ nth (bsOf s) k ∧ nth (bsOf s) k ≤ 57) (h0 : 0 < s.size) (hs : s.size ≤ 2000) :
    Calls Tryd.prog 14 #[.string s] w (Gives w fun v' w' => ∃ v, v' = .tuple #[v, .bool true] ∧ OwnB 4 w.heap.size w' v (bitsOf (numOf (bsOf s)))) := by
  refine via fun R hR => ?_
  have HD := Lib.hid hd
  have hz : ((s.size : Int) == 0) = false := beqF (by omega)
  clear hd
  go_enter Tryd.func14, Tryd.ntmps14
  go_wp2_with fail
  go_loopw [4, 5] (fun b i wr => ∃ pos : Nat, i = .int .i64 pos ∧ pos ≤ s.size ∧ Hid (OwnB 4 w.heap.size wr b (bitsOf (numOf ((bsOf s).take pos)))) ∧ Ext w wr) (fun _ i _ => s.size - (intOf i).toNat)
  case atStart => exact ⟨0, rfl, Nat.zero_le _, by show OwnB _ _ _ _ _; rw [List.take_zero, numOf_nil, bits_nil0]; exact World.ownsRow_lit w #[] 0 (Nat.le_refl _) (Nat.zero_le _) rfl, Ext.alloc _ _⟩
  case round =>
    obtain ⟨pos, rfl, hpos, hO, hbel⟩ := hrel
    have hsz := hbel.size
    by_cases hp : pos < s.size
    · have hpm := hp
      have hkz : (pos : Int) < s.size := by omega
      obtain ⟨x, hx⟩ : ∃ x : UInt8, s[pos]'hp = x := ⟨_, rfl⟩
      have hxn : Hid (x.toNat = nth (bsOf s) pos) := by show _ = _; rw [← hx]; exact bsOf_at s pos hp
      have hx1 : 48 ≤ x.toNat := by have := (HD.out pos hpm).1; have := hxn.out; omega
      have hx2 : x.toNat ≤ 57 := by have := (HD.out pos hpm).2; have := hxn.out; omega
      have hc1 : decide ((x.toNat : Int) < 48) = false := decide_eq_false (by omega)
      have hc2 : decide ((57 : Int) < x.toNat) = false := decide_eq_false (by omega)
      have hnum : Hid (numOf ((bsOf s).take pos) * 10 + (x.toNat - 48) = numOf ((bsOf s).take (pos + 1))) := by show _ = _; rw [numOf_take (by rw [bsOf_len]; exact hp), ← hxn.out]; omega
      have hbd0 := num_bits (bs := bsOf s) (k := pos) (fun i hi => HD.out i (by omega))
      have hbd : (bitsOf (numOf ((bsOf s).take pos))).length ≤ 8001 := by omega
      clear hbd0
      generalize numOf ((bsOf s).take pos) = N at *
      have hmb : Hid ((bitsOf (N * 10)).length ≤ 50000) := Nat.le_trans (mul10_bits N) (by omega)
      have HW10 : Hid (∀ w, Calls Tryd.prog 47 #[.int .u64 10] w (Gives w fun v' w' => OwnB 4 w.heap.size w' v' (bitsOf 10))) := fun w => word_4 10 rfl (by decide)
      have H10 : Hid ((bitsOf 10).length ≤ 50000) := Nat.le_trans (bits_lt (k := 4) (by decide)) (by decide)
      have HX8 : Hid ((bitsOf (x.toNat - 48)).length ≤ 50000) := Nat.le_trans (bits_lt (k := 8) (by omega)) (by decide)
      have hN : Hid ((bitsOf N).length ≤ 50000) := by show _ ≤ _; omega
      have HXW : Hid (∀ w z, z = ((x.toNat - 48 : Nat) : Int) → Calls Tryd.prog 47 #[.int .u64 z] w (Gives w fun v' w' => OwnB 4 w.heap.size w' v' (bitsOf (x.toNat - 48)))) := fun w z hz => word_4 _ hz (by omega)
      have hwz := wrap8 hx1 hx2
      obtain ⟨w1, hw1⟩ : ∃ w1, w1 = wr := ⟨_, rfl⟩
      subst hw1
      go_upto_region 9 with (fail)
      have b2 := drew_ext w1
      have XE := b2
      refine wp_region_noPanic ?_
      refine wp_region_held_drew (S := fun w' => True) (by kernel_rfl) (trivial) (fun hHeld => ?_)
      refine wpAnyH_take (i := 0) (v := ?_) rfl (by kernel_rfl) (by kernel_rfl) (by kernel_rfl) (fun _ _ _ h => h) (Or.inl ⟨by rfl, fun w0 hSw => ?_⟩) hHeld ?_
      rotate_left
      · (try dsimp only at hSw)
        go_simp
        try with_reducible rfl
      simp only [Act.put, List.getElem_toArray, List.getElem_cons_succ, List.getElem_cons_zero, List.setIfInBounds_toArray, List.set_cons_zero, List.set_cons_succ]
      refine wpAnyH_take (i := 3) (v := ?_) rfl (by kernel_rfl) (by kernel_rfl) (by kernel_rfl) (fun _ _ _ h => h) (Or.inl ⟨by rfl, fun w0 hSw => ?_⟩) hHeld ?_
      rotate_left
      · (try dsimp only at hSw)
        go_simp
        try with_reducible rfl
      simp only [Act.put, List.getElem_toArray, List.getElem_cons_succ, List.getElem_cons_zero, List.setIfInBounds_toArray, List.set_cons_zero, List.set_cons_succ]
      refine wpAnyH_take (i := 4) (v := ?_) rfl (by kernel_rfl) (by kernel_rfl) (by kernel_rfl) (fun _ _ _ h => h) (Or.inl ⟨by rfl, fun w0 hSw => ?_⟩) hHeld ?_
      rotate_left
      · (try dsimp only at hSw)
        go_simp
        try with_reducible rfl
      simp only [Act.put, List.getElem_toArray, List.getElem_cons_succ, List.getElem_cons_zero, List.setIfInBounds_toArray, List.set_cons_zero, List.set_cons_succ]
      refine wpAnyH_take (i := 5) (v := ?_) rfl (by kernel_rfl) (by kernel_rfl) (by kernel_rfl) (fun _ _ _ h => h) (Or.inl ⟨by rfl, fun w0 hSw => ?_⟩) hHeld ?_
      rotate_left
      · (try dsimp only at hSw)
        go_simp
        try with_reducible rfl
      simp only [Act.put, List.getElem_toArray, List.getElem_cons_succ, List.getElem_cons_zero, List.setIfInBounds_toArray, List.set_cons_zero, List.set_cons_succ]
      refine wpAnyH_take (i := 6) (v := ?_) rfl (by kernel_rfl) (by kernel_rfl) (by kernel_rfl) (fun _ _ _ h => h) (Or.inl ⟨by rfl, fun w0 hSw => ?_⟩) hHeld ?_
      rotate_left
      · (try dsimp only at hSw)
        go_simp
        try with_reducible rfl
      simp only [Act.put, List.getElem_toArray, List.getElem_cons_succ, List.getElem_cons_zero, List.setIfInBounds_toArray, List.set_cons_zero, List.set_cons_succ]
      refine wpAnyH_take (i := 7) (v := ?_) rfl (by kernel_rfl) (by kernel_rfl) (by kernel_rfl) (fun _ _ _ h => h) (Or.inl ⟨by rfl, fun w0 hSw => ?_⟩) hHeld ?_
      rotate_left
      · (try dsimp only at hSw)
        go_simp
        try with_reducible rfl
      simp only [Act.put, List.getElem_toArray, List.getElem_cons_succ, List.getElem_cons_zero, List.setIfInBounds_toArray, List.set_cons_zero, List.set_cons_succ]
      refine wpAnyH_ready (rs := [1]) (by kernel_rfl) (by simp) ?_
      refine AllReadyH.cons (o := _) rfl (fun K hK => ?_) AllReadyH.nil
      go_simp
      go_at_call 47; refine (HW10.out _).mono ?_; rintro e w3 ⟨v3, rfl, b3, o3⟩; have O3 := Lib.hid o3; clear o3; (first | have XE := Ext.trans XE b3 | have XE := Ext.trans (Ext.trans XE (Ext.alloc _ _)) b3)
      go_wp2_with fail
      refine hK.out _ _ (trivial) (fun hHeld => ?_)
      clear hK K
      try simp only [Act.put, List.getElem_toArray, List.getElem_cons_succ, List.getElem_cons_zero, List.setIfInBounds_toArray, List.set_cons_zero, List.set_cons_succ]
      refine wpAnyH_ready (rs := [2]) (by kernel_rfl) (by simp) ?_
      refine AllReadyH.cons (o := _) rfl (fun K hK => ?_) AllReadyH.nil
      go_simp
      go_at_call 46; refine (r3mul_4 _ _ (hO.out.rd.ext (Ext.trans b2 b3)) O3.out.rd hN.out H10.out).mono ?_; rintro e w4 ⟨v4, rfl, b4, o4⟩; have O4 := Lib.hid o4; clear o4; (first | have XE := Ext.trans XE b4 | have XE := Ext.trans (Ext.trans XE (Ext.alloc _ _)) b4)
      go_wp2_with fail
      refine hK.out _ _ (trivial) (fun hHeld => ?_)
      clear hK K
      try simp only [Act.put, List.getElem_toArray, List.getElem_cons_succ, List.getElem_cons_zero, List.setIfInBounds_toArray, List.set_cons_zero, List.set_cons_succ]
      refine wpAnyH_ready (rs := [8]) (by kernel_rfl) (by simp) ?_
      refine AllReadyH.cons (o := _) rfl (fun K hK => ?_) AllReadyH.nil
      go_simp
      go_at_call 47; refine (HXW.out _ _ rfl).mono ?_; rintro e w5 ⟨v5, rfl, b5, o5⟩; have O5 := Lib.hid o5; clear o5; (first | have XE := Ext.trans XE b5 | have XE := Ext.trans (Ext.trans XE (Ext.alloc _ _)) b5)
      go_wp2_with fail
      refine hK.out _ _ (trivial) (fun hHeld => ?_)
      clear hK K
      try simp only [Act.put, List.getElem_toArray, List.getElem_cons_succ, List.getElem_cons_zero, List.setIfInBounds_toArray, List.set_cons_zero, List.set_cons_succ]
      refine wpAnyH_ready (rs := [9]) (by kernel_rfl) (by simp) ?_
      refine AllReadyH.cons (o := _) rfl (fun K hK => ?_) AllReadyH.nil
      go_simp
      go_at_call 45; refine (radd_4 _ _ (O4.out.rd.ext b5) O5.out.rd hmb.out HX8.out).mono ?_; rintro e w6 ⟨v6, rfl, b6, o6⟩; have O6 := Lib.hid o6; clear o6; (first | have XE := Ext.trans XE b6 | have XE := Ext.trans (Ext.trans XE (Ext.alloc _ _)) b6)
      go_wp2_with fail
      refine hK.out _ _ (trivial) (fun hHeld => ?_)
      clear hK K
      try simp only [Act.put, List.getElem_toArray, List.getElem_cons_succ, List.getElem_cons_zero, List.setIfInBounds_toArray, List.set_cons_zero, List.set_cons_succ]
      refine wpAnyH_take (i := 10) (v := ?_) rfl (by kernel_rfl) (by kernel_rfl) (by kernel_rfl) (fun _ _ _ h => h) (Or.inl ⟨by rfl, fun w0 hSw => ?_⟩) hHeld ?_
      rotate_left
      · (try dsimp only at hSw)
        go_simp
        try with_reducible rfl
      simp only [Act.put, List.getElem_toArray, List.getElem_cons_succ, List.getElem_cons_zero, List.setIfInBounds_toArray, List.set_cons_zero, List.set_cons_succ]
      refine wpAnyH_done (by kernel_rfl) ?_ _
      refine NoPanic.normal ?_
      have hs1 := Below.size (Ext.trans b2 (Ext.trans b3 (Ext.trans b4 b5)))
      have O6' : Hid (OwnB 4 w.heap.size w6 v6 (bitsOf (numOf ((bsOf s).take (pos + 1))))) := by rw [← hnum.out]; exact O6.out.mono (by omega)
      clear hx
      go_wp2
      go_roundw
      case rel => exact ⟨pos + 1, by go_num, by omega, O6'.out, Ext.trans hbel (Ext.trans b2 (Ext.trans b3 (Ext.trans b4 (Ext.trans b5 b6))))⟩
      case measure => simp [intOf] <;> omega
    · have hkz : ¬ (pos : Int) < s.size := by omega
      have E : Hid (numOf ((bsOf s).take pos) = numOf (bsOf s)) := by
        show _ = _
        rw [List.take_of_length_le (by rw [bsOf_len]; omega)]
      go_wp2_with fail
      exact hR.out _ _ (Gives.mk hbel ⟨_, rfl, E.out ▸ hO.out⟩)

set_option maxHeartbeats 1000000 in
set_option maxRecDepth 100000 in
set_option linter.unusedSimpArgs false in
theorem r4parse_bad {w : World} {s : ByteArray} {m : Nat} (hm : m < s.size) (hd : ∀ k, k < m → 48 ≤ nth (bsOf s) k ∧ nth (bsOf s) k ≤ 57) (hb : ¬ (48 ≤ nth (bsOf s) m ∧ nth (bsOf s) m ≤ 57)) (hs : s.size ≤ 2000) :
    Calls Tryd.prog 14 #[.string s] w (Gives w fun v' _ => v' = .tuple #[.slice none 0 0, .bool false]) := by
  refine via fun R hR => ?_
  have HD := Lib.hid hd
  have HBAD := Lib.hid hb
  have hz : ((s.size : Int) == 0) = false := beqF (by omega)
  clear hd hb
  go_enter Tryd.func14, Tryd.ntmps14
  go_wp2_with fail
  go_loopw [4, 5] (fun b i wr => ∃ pos : Nat, i = .int .i64 pos ∧ pos ≤ m ∧ Hid (OwnB 4 w.heap.size wr b (bitsOf (numOf ((bsOf s).take pos)))) ∧ Ext w wr) (fun _ i _ => s.size - (intOf i).toNat)
  case atStart => exact ⟨0, rfl, Nat.zero_le _, by show OwnB _ _ _ _ _; rw [List.take_zero, numOf_nil, bits_nil0]; exact World.ownsRow_lit w #[] 0 (Nat.le_refl _) (Nat.zero_le _) rfl, Ext.alloc _ _⟩
  case round =>
    obtain ⟨pos, rfl, hpos, hO, hbel⟩ := hrel
    have hsz := hbel.size
    have hp : pos < s.size := by omega
    by_cases hpm : pos < m
    · skip
      have hkz : (pos : Int) < s.size := by omega
      obtain ⟨x, hx⟩ : ∃ x : UInt8, s[pos]'hp = x := ⟨_, rfl⟩
      have hxn : Hid (x.toNat = nth (bsOf s) pos) := by show _ = _; rw [← hx]; exact bsOf_at s pos hp
      have hx1 : 48 ≤ x.toNat := by have := (HD.out pos hpm).1; have := hxn.out; omega
      have hx2 : x.toNat ≤ 57 := by have := (HD.out pos hpm).2; have := hxn.out; omega
      have hc1 : decide ((x.toNat : Int) < 48) = false := decide_eq_false (by omega)
      have hc2 : decide ((57 : Int) < x.toNat) = false := decide_eq_false (by omega)
      have hnum : Hid (numOf ((bsOf s).take pos) * 10 + (x.toNat - 48) = numOf ((bsOf s).take (pos + 1))) := by show _ = _; rw [numOf_take (by rw [bsOf_len]; exact hp), ← hxn.out]; omega
      have hbd0 := num_bits (bs := bsOf s) (k := pos) (fun i hi => HD.out i (by omega))
      have hbd : (bitsOf (numOf ((bsOf s).take pos))).length ≤ 8001 := by omega
      clear hbd0
      generalize numOf ((bsOf s).take pos) = N at *
      have hmb : Hid ((bitsOf (N * 10)).length ≤ 50000) := Nat.le_trans (mul10_bits N) (by omega)
      have HW10 : Hid (∀ w, Calls Tryd.prog 47 #[.int .u64 10] w (Gives w fun v' w' => OwnB 4 w.heap.size w' v' (bitsOf 10))) := fun w => word_4 10 rfl (by decide)
      have H10 : Hid ((bitsOf 10).length ≤ 50000) := Nat.le_trans (bits_lt (k := 4) (by decide)) (by decide)
      have HX8 : Hid ((bitsOf (x.toNat - 48)).length ≤ 50000) := Nat.le_trans (bits_lt (k := 8) (by omega)) (by decide)
      have hN : Hid ((bitsOf N).length ≤ 50000) := by show _ ≤ _; omega
      have HXW : Hid (∀ w z, z = ((x.toNat - 48 : Nat) : Int) → Calls Tryd.prog 47 #[.int .u64 z] w (Gives w fun v' w' => OwnB 4 w.heap.size w' v' (bitsOf (x.toNat - 48)))) := fun w z hz => word_4 _ hz (by omega)
      have hwz := wrap8 hx1 hx2
      obtain ⟨w1, hw1⟩ : ∃ w1, w1 = wr := ⟨_, rfl⟩
      subst hw1
      go_upto_region 9 with (fail)
      have b2 := drew_ext w1
      have XE := b2
      refine wp_region_noPanic ?_
      refine wp_region_held_drew (S := fun w' => True) (by kernel_rfl) (trivial) (fun hHeld => ?_)
      refine wpAnyH_take (i := 0) (v := ?_) rfl (by kernel_rfl) (by kernel_rfl) (by kernel_rfl) (fun _ _ _ h => h) (Or.inl ⟨by rfl, fun w0 hSw => ?_⟩) hHeld ?_
      rotate_left
      · (try dsimp only at hSw)
        go_simp
        try with_reducible rfl
      simp only [Act.put, List.getElem_toArray, List.getElem_cons_succ, List.getElem_cons_zero, List.setIfInBounds_toArray, List.set_cons_zero, List.set_cons_succ]
      refine wpAnyH_take (i := 3) (v := ?_) rfl (by kernel_rfl) (by kernel_rfl) (by kernel_rfl) (fun _ _ _ h => h) (Or.inl ⟨by rfl, fun w0 hSw => ?_⟩) hHeld ?_
      rotate_left
      · (try dsimp only at hSw)
        go_simp
        try with_reducible rfl
      simp only [Act.put, List.getElem_toArray, List.getElem_cons_succ, List.getElem_cons_zero, List.setIfInBounds_toArray, List.set_cons_zero, List.set_cons_succ]
      refine wpAnyH_take (i := 4) (v := ?_) rfl (by kernel_rfl) (by kernel_rfl) (by kernel_rfl) (fun _ _ _ h => h) (Or.inl ⟨by rfl, fun w0 hSw => ?_⟩) hHeld ?_
      rotate_left
      · (try dsimp only at hSw)
        go_simp
        try with_reducible rfl
      simp only [Act.put, List.getElem_toArray, List.getElem_cons_succ, List.getElem_cons_zero, List.setIfInBounds_toArray, List.set_cons_zero, List.set_cons_succ]
      refine wpAnyH_take (i := 5) (v := ?_) rfl (by kernel_rfl) (by kernel_rfl) (by kernel_rfl) (fun _ _ _ h => h) (Or.inl ⟨by rfl, fun w0 hSw => ?_⟩) hHeld ?_
      rotate_left
      · (try dsimp only at hSw)
        go_simp
        try with_reducible rfl
      simp only [Act.put, List.getElem_toArray, List.getElem_cons_succ, List.getElem_cons_zero, List.setIfInBounds_toArray, List.set_cons_zero, List.set_cons_succ]
      refine wpAnyH_take (i := 6) (v := ?_) rfl (by kernel_rfl) (by kernel_rfl) (by kernel_rfl) (fun _ _ _ h => h) (Or.inl ⟨by rfl, fun w0 hSw => ?_⟩) hHeld ?_
      rotate_left
      · (try dsimp only at hSw)
        go_simp
        try with_reducible rfl
      simp only [Act.put, List.getElem_toArray, List.getElem_cons_succ, List.getElem_cons_zero, List.setIfInBounds_toArray, List.set_cons_zero, List.set_cons_succ]
      refine wpAnyH_take (i := 7) (v := ?_) rfl (by kernel_rfl) (by kernel_rfl) (by kernel_rfl) (fun _ _ _ h => h) (Or.inl ⟨by rfl, fun w0 hSw => ?_⟩) hHeld ?_
      rotate_left
      · (try dsimp only at hSw)
        go_simp
        try with_reducible rfl
      simp only [Act.put, List.getElem_toArray, List.getElem_cons_succ, List.getElem_cons_zero, List.setIfInBounds_toArray, List.set_cons_zero, List.set_cons_succ]
      refine wpAnyH_ready (rs := [1]) (by kernel_rfl) (by simp) ?_
      refine AllReadyH.cons (o := _) rfl (fun K hK => ?_) AllReadyH.nil
      go_simp
      go_at_call 47; refine (HW10.out _).mono ?_; rintro e w3 ⟨v3, rfl, b3, o3⟩; have O3 := Lib.hid o3; clear o3; (first | have XE := Ext.trans XE b3 | have XE := Ext.trans (Ext.trans XE (Ext.alloc _ _)) b3)
      go_wp2_with fail
      refine hK.out _ _ (trivial) (fun hHeld => ?_)
      clear hK K
      try simp only [Act.put, List.getElem_toArray, List.getElem_cons_succ, List.getElem_cons_zero, List.setIfInBounds_toArray, List.set_cons_zero, List.set_cons_succ]
      refine wpAnyH_ready (rs := [2]) (by kernel_rfl) (by simp) ?_
      refine AllReadyH.cons (o := _) rfl (fun K hK => ?_) AllReadyH.nil
      go_simp
      go_at_call 46; refine (r3mul_4 _ _ (hO.out.rd.ext (Ext.trans b2 b3)) O3.out.rd hN.out H10.out).mono ?_; rintro e w4 ⟨v4, rfl, b4, o4⟩; have O4 := Lib.hid o4; clear o4; (first | have XE := Ext.trans XE b4 | have XE := Ext.trans (Ext.trans XE (Ext.alloc _ _)) b4)
      go_wp2_with fail
      refine hK.out _ _ (trivial) (fun hHeld => ?_)
      clear hK K
      try simp only [Act.put, List.getElem_toArray, List.getElem_cons_succ, List.getElem_cons_zero, List.setIfInBounds_toArray, List.set_cons_zero, List.set_cons_succ]
      refine wpAnyH_ready (rs := [8]) (by kernel_rfl) (by simp) ?_
      refine AllReadyH.cons (o := _) rfl (fun K hK => ?_) AllReadyH.nil
      go_simp
      go_at_call 47; refine (HXW.out _ _ rfl).mono ?_; rintro e w5 ⟨v5, rfl, b5, o5⟩; have O5 := Lib.hid o5; clear o5; (first | have XE := Ext.trans XE b5 | have XE := Ext.trans (Ext.trans XE (Ext.alloc _ _)) b5)
      go_wp2_with fail
      refine hK.out _ _ (trivial) (fun hHeld => ?_)
      clear hK K
      try simp only [Act.put, List.getElem_toArray, List.getElem_cons_succ, List.getElem_cons_zero, List.setIfInBounds_toArray, List.set_cons_zero, List.set_cons_succ]
      refine wpAnyH_ready (rs := [9]) (by kernel_rfl) (by simp) ?_
      refine AllReadyH.cons (o := _) rfl (fun K hK => ?_) AllReadyH.nil
      go_simp
      go_at_call 45; refine (radd_4 _ _ (O4.out.rd.ext b5) O5.out.rd hmb.out HX8.out).mono ?_; rintro e w6 ⟨v6, rfl, b6, o6⟩; have O6 := Lib.hid o6; clear o6; (first | have XE := Ext.trans XE b6 | have XE := Ext.trans (Ext.trans XE (Ext.alloc _ _)) b6)
      go_wp2_with fail
      refine hK.out _ _ (trivial) (fun hHeld => ?_)
      clear hK K
      try simp only [Act.put, List.getElem_toArray, List.getElem_cons_succ, List.getElem_cons_zero, List.setIfInBounds_toArray, List.set_cons_zero, List.set_cons_succ]
      refine wpAnyH_take (i := 10) (v := ?_) rfl (by kernel_rfl) (by kernel_rfl) (by kernel_rfl) (fun _ _ _ h => h) (Or.inl ⟨by rfl, fun w0 hSw => ?_⟩) hHeld ?_
      rotate_left
      · (try dsimp only at hSw)
        go_simp
        try with_reducible rfl
      simp only [Act.put, List.getElem_toArray, List.getElem_cons_succ, List.getElem_cons_zero, List.setIfInBounds_toArray, List.set_cons_zero, List.set_cons_succ]
      refine wpAnyH_done (by kernel_rfl) ?_ _
      refine NoPanic.normal ?_
      have hs1 := Below.size (Ext.trans b2 (Ext.trans b3 (Ext.trans b4 b5)))
      have O6' : Hid (OwnB 4 w.heap.size w6 v6 (bitsOf (numOf ((bsOf s).take (pos + 1))))) := by rw [← hnum.out]; exact O6.out.mono (by omega)
      clear hx
      go_wp2
      go_roundw
      case rel => exact ⟨pos + 1, by go_num, by omega, O6'.out, Ext.trans hbel (Ext.trans b2 (Ext.trans b3 (Ext.trans b4 (Ext.trans b5 b6))))⟩
      case measure => simp [intOf] <;> omega
    · obtain rfl : pos = m := by omega
      have hkz : (pos : Int) < s.size := by omega
      obtain ⟨x, hx⟩ : ∃ x : UInt8, s[pos]'hp = x := ⟨_, rfl⟩
      have hxn : Hid (x.toNat = nth (bsOf s) pos) := by show _ = _; rw [← hx]; exact bsOf_at s pos hp
      by_cases hx1 : x.toNat < 48
      · have hc1 : decide ((x.toNat : Int) < 48) = true := decide_eq_true (by omega)
        go_wp2_with fail
        exact hR.out _ _ (Gives.mk hbel rfl)
      · have hc1 : decide ((x.toNat : Int) < 48) = false := decide_eq_false (by omega)
        have hc2 : decide ((57 : Int) < x.toNat) = true := decide_eq_true (by have := hxn.out; have := HBAD.out; omega)
        go_wp2_with fail
        exact hR.out _ _ (Gives.mk hbel rfl)
theorem r4parse_none {w : World} {s : ByteArray} (h0 : s.size = 0) :
    Calls Tryd.prog 14 #[.string s] w (Gives w fun v' _ => v' = .tuple #[.slice none 0 0, .bool false]) := by
  refine via fun R hR => ?_
  go_enter Tryd.func14, Tryd.ntmps14
  go_wp2_with fail
  exact hR.out _ _ (Gives.mk (Ext.refl _) rfl)
end Go.Proofs.YtgajpmcjjefghaaDoor
