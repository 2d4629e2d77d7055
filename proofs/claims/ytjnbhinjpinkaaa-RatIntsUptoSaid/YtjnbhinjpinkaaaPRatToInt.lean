/- rat.ToInt -/
import Derived.Test.YtjnbhinjpinkaaaPRatWhole
import Derived.Test.YtjnbhinjpinkaaaPRatCmp
import Derived.Test.YtjnbhinjpinkaaaPRatFrac
import Derived.Test.YtjnbhinjpinkaaaLimbAll
namespace Go.Proofs.Ytjnbhinjpinkaaa
open Go.RowKit Go.Att

/-- It is an int. -/
def IsInt (q : Rat) : Prop := q.den = 1 ∧ -9223372036854775808 ≤ q.num ∧ q.num ≤ 9223372036854775807
theorem int_eq {q : Rat} {n : Int} (hd : q.den = 1) (h : n = q.num) : (n : Rat) = q := Rat.ext (by rw [Rat.num_intCast, h]) (by rw [hd]; rfl)
theorem sub_sign {p q : Rat} (h : p ≠ q) : (p - q).num.sign ≠ 0 := by
  intro h0
  have h1 : (p - q).num = 0 := Int.sign_eq_zero_iff_zero.1 h0
  have h2 : p - q = 0 := Rat.num_eq_zero.1 h1
  exact h (by have := Rat.sub_add_cancel (a := p) (b := q); rw [h2, Rat.zero_add] at this; exact this.symm)

/-- What the code makes of the size and the sign. -/
def backInt (s : Bool) (u : Nat) : Int := if s then IntKind.i64.wrap (IntKind.u64.wrap (-(u : Int))) else IntKind.i64.wrap (u : Int)
theorem backInt_range (s : Bool) (u : Nat) : -9223372036854775808 ≤ backInt s u ∧ backInt s u ≤ 9223372036854775807 := by
  cases s <;> simp [backInt, IntKind.wrap, IntKind.bits, IntKind.signed] <;> omega
theorem backInt_eq (m : Int) (h : -9223372036854775808 ≤ m ∧ m ≤ 9223372036854775807) : backInt (decide (m < 0)) m.natAbs = m := by
  by_cases h0 : m < 0
  · simp [backInt, h0, IntKind.wrap, IntKind.bits, IntKind.signed]; omega
  · simp [backInt, h0, IntKind.wrap, IntKind.bits, IntKind.signed]; omega

/-- Where the number is whole and its size fits 64 bits: what comes back, compared. -/
theorem toint_mid {w : World} {v : Value} {q : Rat} (hq : RdQ w v q) (sq : Sz 10000000 q) (hd1 : q.den = 1) (hf : q.num.natAbs < W64) :
    Calls Try.prog 53 #[v] w (Gives w fun v' _ => v' = if backInt (decide (q.num < 0)) q.num.natAbs = q.num then .tuple #[.int .i64 (backInt (decide (q.num < 0)) q.num.natAbs), .bool true] else .tuple #[.int .i64 0, .bool false]) := by
  have HM : Hid (q.num.natAbs % W64 = q.num.natAbs) := Nat.mod_eq_of_lt hf
  have HL : Hid (decide (q.num.natAbs < W64) = true) := decide_eq_true hf
  have HD : Hid (decide (q.den = 1) = true) := decide_eq_true hd1
  have hE : Hid (backInt (decide (q.num < 0)) q.num.natAbs = q.num → ((backInt (decide (q.num < 0)) q.num.natAbs : Rat) - q).num.sign = 0) := fun h => by rw [int_eq hd1 h, Rat.sub_self]; rfl
  have hNE : Hid (backInt (decide (q.num < 0)) q.num.natAbs ≠ q.num → ((backInt (decide (q.num < 0)) q.num.natAbs : Rat) - q).num.sign ≠ 0) := fun h => sub_sign (fun h2 => h (by have h3 := congrArg Rat.num h2; rw [Rat.num_intCast] at h3; exact h3))
  have hrg := Lib.hid (backInt_range (decide (q.num < 0)) q.num.natAbs)
  clear hd1 hf
  refine via fun R hR => ?_
  have HQ := Lib.hid hq
  have SQ := Lib.hid sq
  obtain ⟨n, d, rfl, hn, hd⟩ := hq
  have HN := Lib.hid hn
  clear hn hd sq
  obtain ⟨w1, hw1, b1, c1, -, z1⟩ := box1 w (.bool (decide (q.num < 0))) n d 36
  have C1 := Lib.hid c1
  have HW := Lib.hid hw1
  clear c1 hw1 z1
  go_enter Try.func53, Try.ntmps53
  go_wp2_with fail
  rw [← HW.out]
  clear HW
  refine (low_any (HN.out.ext b1)).mono ?_
  rintro e w2 ⟨_, rfl, b2, rfl⟩
  rw [nv_limbs, HM.out, HL.out]
  obtain ⟨k0, k1, k2⟩ := C1.out.ext b2
  go_wp2_with fail
  refine (whole_any (HQ.out.ext (Ext.trans b1 b2))).mono ?_
  rintro e w3 ⟨_, rfl, b3, rfl⟩
  rw [HD.out]
  clear k0 k1 k2
  have D1 := Lib.hid (C1.out.ext (Ext.trans b2 b3))
  generalize q.num.natAbs = u at *
  obtain ⟨k0, k1, k2⟩ := D1.out
  cases hs : decide (q.num < 0)
  · skip
    rw [hs] at hR hE hNE hrg k0 D1 HQ
    have em : IntKind.i64.wrap (u : Int) = backInt false u := by simp [backInt]
    generalize backInt false u = m at *
    go_upto_region 7 with (fail)
    clear k0 k1 k2 em
    by_cases h : m = q.num
    · rw [if_pos h] at hR
      have HS := Lib.hid (hE.out h)
      clear h
      have b4 := drew_ext w3
      have XE := b4
      go_region_held3 (fun w' => w'.cell? ⟨w.heap.size, 0, none⟩ = some (.bool false) ∧ w'.cell? ⟨w.heap.size, 1, none⟩ = some (n) ∧ w'.cell? ⟨w.heap.size, 2, none⟩ = some (d)) (exact D1.out.ext XE)
        (first
         | (go_at_call 34; refine (HS.out ▸ rcmp_any O5.out.rd (HQ.out.ext (Ext.trans b1 (Ext.trans b2 (Ext.trans b3 (Ext.trans b4 b5))))) ((Sz.int m hrg.out).le (by decide)) SQ.out).mono ?_; rintro e w6 ⟨_, rfl, b6, rfl⟩; (first | have XE := Ext.trans XE b6 | have XE := Ext.trans (Ext.trans XE (Ext.alloc _ _)) b6))
         | (go_at_call 26; refine (rint_any hrg.out).mono ?_; rintro e w5 ⟨v5, rfl, b5, o5⟩; have O5 := Lib.hid o5; clear o5; (first | have XE := Ext.trans XE b5 | have XE := Ext.trans (Ext.trans XE (Ext.alloc _ _)) b5)))
      go_wp2_with fail
      exact hR.out _ _ (Gives.mk (Ext.trans b1 (Ext.trans b2 (Ext.trans b3 (Ext.trans b4 (Ext.trans b5 b6))))) rfl)
    · rw [if_neg h] at hR
      have hne := hNE.out h
      have hB := @rcmp_any
      clear hB
      generalize hv : ((m : Rat) - q).num.sign = t at hne
      have HV := Lib.hid hv
      have ht : (t == 0) = false := beqF hne
      clear h hv hne
      have b4 := drew_ext w3
      have XE := b4
      go_region_held3 (fun w' => w'.cell? ⟨w.heap.size, 0, none⟩ = some (.bool false) ∧ w'.cell? ⟨w.heap.size, 1, none⟩ = some (n) ∧ w'.cell? ⟨w.heap.size, 2, none⟩ = some (d)) (exact D1.out.ext XE)
        (first
         | (go_at_call 34; refine (HV.out ▸ rcmp_any O5.out.rd (HQ.out.ext (Ext.trans b1 (Ext.trans b2 (Ext.trans b3 (Ext.trans b4 b5))))) ((Sz.int m hrg.out).le (by decide)) SQ.out).mono ?_; rintro e w6 ⟨_, rfl, b6, rfl⟩; (first | have XE := Ext.trans XE b6 | have XE := Ext.trans (Ext.trans XE (Ext.alloc _ _)) b6))
         | (go_at_call 26; refine (rint_any hrg.out).mono ?_; rintro e w5 ⟨v5, rfl, b5, o5⟩; have O5 := Lib.hid o5; clear o5; (first | have XE := Ext.trans XE b5 | have XE := Ext.trans (Ext.trans XE (Ext.alloc _ _)) b5)))
      go_wp2_with fail
      exact hR.out _ _ (Gives.mk (Ext.trans b1 (Ext.trans b2 (Ext.trans b3 (Ext.trans b4 (Ext.trans b5 b6))))) rfl)
  · skip
    rw [hs] at hR hE hNE hrg k0 D1 HQ
    have em : IntKind.i64.wrap (IntKind.u64.wrap (-(u : Int))) = backInt true u := by simp [backInt]
    generalize backInt true u = m at *
    go_upto_region 7 with (fail)
    clear k0 k1 k2 em
    by_cases h : m = q.num
    · rw [if_pos h] at hR
      have HS := Lib.hid (hE.out h)
      clear h
      have b4 := drew_ext w3
      have XE := b4
      go_region_held3 (fun w' => w'.cell? ⟨w.heap.size, 0, none⟩ = some (.bool true) ∧ w'.cell? ⟨w.heap.size, 1, none⟩ = some (n) ∧ w'.cell? ⟨w.heap.size, 2, none⟩ = some (d)) (exact D1.out.ext XE)
        (first
         | (go_at_call 34; refine (HS.out ▸ rcmp_any O5.out.rd (HQ.out.ext (Ext.trans b1 (Ext.trans b2 (Ext.trans b3 (Ext.trans b4 b5))))) ((Sz.int m hrg.out).le (by decide)) SQ.out).mono ?_; rintro e w6 ⟨_, rfl, b6, rfl⟩; (first | have XE := Ext.trans XE b6 | have XE := Ext.trans (Ext.trans XE (Ext.alloc _ _)) b6))
         | (go_at_call 26; refine (rint_any hrg.out).mono ?_; rintro e w5 ⟨v5, rfl, b5, o5⟩; have O5 := Lib.hid o5; clear o5; (first | have XE := Ext.trans XE b5 | have XE := Ext.trans (Ext.trans XE (Ext.alloc _ _)) b5)))
      go_wp2_with fail
      exact hR.out _ _ (Gives.mk (Ext.trans b1 (Ext.trans b2 (Ext.trans b3 (Ext.trans b4 (Ext.trans b5 b6))))) rfl)
    · rw [if_neg h] at hR
      have hne := hNE.out h
      have hB := @rcmp_any
      clear hB
      generalize hv : ((m : Rat) - q).num.sign = t at hne
      have HV := Lib.hid hv
      have ht : (t == 0) = false := beqF hne
      clear h hv hne
      have b4 := drew_ext w3
      have XE := b4
      go_region_held3 (fun w' => w'.cell? ⟨w.heap.size, 0, none⟩ = some (.bool true) ∧ w'.cell? ⟨w.heap.size, 1, none⟩ = some (n) ∧ w'.cell? ⟨w.heap.size, 2, none⟩ = some (d)) (exact D1.out.ext XE)
        (first
         | (go_at_call 34; refine (HV.out ▸ rcmp_any O5.out.rd (HQ.out.ext (Ext.trans b1 (Ext.trans b2 (Ext.trans b3 (Ext.trans b4 b5))))) ((Sz.int m hrg.out).le (by decide)) SQ.out).mono ?_; rintro e w6 ⟨_, rfl, b6, rfl⟩; (first | have XE := Ext.trans XE b6 | have XE := Ext.trans (Ext.trans XE (Ext.alloc _ _)) b6))
         | (go_at_call 26; refine (rint_any hrg.out).mono ?_; rintro e w5 ⟨v5, rfl, b5, o5⟩; have O5 := Lib.hid o5; clear o5; (first | have XE := Ext.trans XE b5 | have XE := Ext.trans (Ext.trans XE (Ext.alloc _ _)) b5)))
      go_wp2_with fail
      exact hR.out _ _ (Gives.mk (Ext.trans b1 (Ext.trans b2 (Ext.trans b3 (Ext.trans b4 (Ext.trans b5 b6))))) rfl)

theorem toint_yes {w : World} {v : Value} {q : Rat} (hq : RdQ w v q) (sq : Sz 10000000 q) (h : IsInt q) :
    Calls Try.prog 53 #[v] w (Gives w fun v' _ => v' = .tuple #[.int .i64 q.num, .bool true]) := by
  have h1 := toint_mid hq sq h.1 (by have := h.2; unfold W64; omega)
  have h2 := backInt_eq q.num h.2
  rw [h2, if_pos rfl] at h1
  exact h1
theorem toint_out {w : World} {v : Value} {q : Rat} (hq : RdQ w v q) (sq : Sz 10000000 q) (h : ¬ IsInt q) (hd1 : q.den = 1) (hf : q.num.natAbs < W64) :
    Calls Try.prog 53 #[v] w (Gives w fun v' _ => v' = .tuple #[.int .i64 0, .bool false]) := by
  have h1 := toint_mid hq sq hd1 hf
  rw [if_neg (fun h2 => h ⟨hd1, by rw [← h2]; exact (backInt_range _ _).1, by rw [← h2]; exact (backInt_range _ _).2⟩)] at h1
  exact h1
theorem toint_far {w : World} {v : Value} {q : Rat} (hq : RdQ w v q) (sq : Sz 10000000 q) (h : ¬ (q.den = 1 ∧ q.num.natAbs < W64)) :
    Calls Try.prog 53 #[v] w (Gives w fun v' _ => v' = .tuple #[.int .i64 0, .bool false]) := by
  by_cases hd1 : q.den = 1
  · have HL : Hid (decide (q.num.natAbs < W64) = false) := decide_eq_false (fun h2 => h ⟨hd1, h2⟩)
    have HD : Hid (decide (q.den = 1) = true) := decide_eq_true hd1
    clear h hd1
    refine via fun R hR => ?_
    have HQ := Lib.hid hq
    have SQ := Lib.hid sq
    obtain ⟨n, d, rfl, hn, hd⟩ := hq
    have HN := Lib.hid hn
    clear hn hd sq
    obtain ⟨w1, hw1, b1, c1, -, z1⟩ := box1 w (.bool (decide (q.num < 0))) n d 36
    have C1 := Lib.hid c1
    have HW := Lib.hid hw1
    clear c1 hw1 z1
    go_enter Try.func53, Try.ntmps53
    go_wp2_with fail
    rw [← HW.out]
    clear HW
    refine (low_any (HN.out.ext b1)).mono ?_
    rintro e w2 ⟨_, rfl, b2, rfl⟩
    rw [nv_limbs, HL.out]
    generalize q.num.natAbs % W64 = u at *
    obtain ⟨k0, k1, k2⟩ := C1.out.ext b2
    go_wp2_with fail
    refine (whole_any (HQ.out.ext (Ext.trans b1 b2))).mono ?_
    rintro e w3 ⟨_, rfl, b3, rfl⟩
    rw [HD.out]
    clear k0 k1 k2
    go_wp2_with fail
    exact hR.out _ _ (Gives.mk (Ext.trans b1 (Ext.trans b2 b3)) rfl)
  · obtain ⟨f, hf⟩ : ∃ f, decide (q.num.natAbs < W64) = f := ⟨_, rfl⟩
    have HL := Lib.hid hf
    clear hf
    have HD : Hid (decide (q.den = 1) = false) := decide_eq_false hd1
    clear h hd1
    refine via fun R hR => ?_
    have HQ := Lib.hid hq
    have SQ := Lib.hid sq
    obtain ⟨n, d, rfl, hn, hd⟩ := hq
    have HN := Lib.hid hn
    clear hn hd sq
    obtain ⟨w1, hw1, b1, c1, -, z1⟩ := box1 w (.bool (decide (q.num < 0))) n d 36
    have C1 := Lib.hid c1
    have HW := Lib.hid hw1
    clear c1 hw1 z1
    go_enter Try.func53, Try.ntmps53
    go_wp2_with fail
    rw [← HW.out]
    clear HW
    refine (low_any (HN.out.ext b1)).mono ?_
    rintro e w2 ⟨_, rfl, b2, rfl⟩
    rw [nv_limbs, HL.out]
    generalize q.num.natAbs % W64 = u at *
    obtain ⟨k0, k1, k2⟩ := C1.out.ext b2
    go_wp2_with fail
    refine (whole_any (HQ.out.ext (Ext.trans b1 b2))).mono ?_
    rintro e w3 ⟨_, rfl, b3, rfl⟩
    rw [HD.out]
    clear k0 k1 k2
    go_wp2_with fail
    exact hR.out _ _ (Gives.mk (Ext.trans b1 (Ext.trans b2 b3)) rfl)
theorem toint_no {w : World} {v : Value} {q : Rat} (hq : RdQ w v q) (sq : Sz 10000000 q) (h : ¬ IsInt q) :
    Calls Try.prog 53 #[v] w (Gives w fun v' _ => v' = .tuple #[.int .i64 0, .bool false]) := by
  by_cases h1 : q.den = 1 ∧ q.num.natAbs < W64
  · exact toint_out hq sq h h1.1 h1.2
  · exact toint_far hq sq h1
end Go.Proofs.Ytjnbhinjpinkaaa
