/- rtext.Places, Point; attestref06.Places -/
import Derived.Test.YtgajpmcjjefghaaGreatDoorPRtDecP
import Derived.Test.YtgajpmcjjefghaaGreatDoorNatAll
import Derived.Test.YtgajpmcjjefghaaGreatDoorLimbAll
import Derived.Test.YtgajpmcjjefghaaGreatDoorRefAll
import Derived.Test.YtgajpmcjjefghaaGreatDoorPR6Dec
namespace Go.Proofs.YtgajpmcjjefghaaGreatDoor
open Go.RowKit Go.Att

/-- What is left of d when the twos and fives of 10 have been taken out k times. -/
def offT (d : Nat) : Nat → Nat
  | 0 => d
  | k + 1 => offT d k / Nat.gcd (offT d k) 10
theorem offT_pos {d : Nat} (h : d ≠ 0) : ∀ k, offT d k ≠ 0
  | 0 => h
  | k + 1 => by
    have h1 := offT_pos h k
    have h2 : Nat.gcd (offT d k) 10 ∣ offT d k := Nat.gcd_dvd_left _ _
    show offT d k / Nat.gcd (offT d k) 10 ≠ 0
    exact Nat.pos_iff_ne_zero.1 (Nat.div_pos (Nat.le_of_dvd (Nat.pos_of_ne_zero h1) h2) (Nat.gcd_pos_of_pos_right _ (by decide)))
theorem offT_le {d : Nat} : ∀ k, offT d k ≤ d
  | 0 => Nat.le_refl _
  | k + 1 => Nat.le_trans (Nat.div_le_self _ _) (offT_le k)
/-- d divides 10 to the k + j just if what is left divides 10 to the j. -/
theorem offT_dvd {d : Nat} (h : d ≠ 0) : ∀ k j, d ∣ 10 ^ (k + j) ↔ offT d k ∣ 10 ^ j
  | 0, j => by rw [Nat.zero_add]; rfl
  | k + 1, j => by
    rw [show k + 1 + j = k + (j + 1) by omega, offT_dvd h k (j + 1)]
    show _ ↔ offT d k / Nat.gcd (offT d k) 10 ∣ 10 ^ j
    have h0 := offT_pos h k
    generalize offT d k = e at *
    have hg : 0 < Nat.gcd e 10 := Nat.gcd_pos_of_pos_right _ (by decide)
    have he : e / Nat.gcd e 10 * Nat.gcd e 10 = e := Nat.div_mul_cancel (Nat.gcd_dvd_left _ _)
    have ht : 10 / Nat.gcd e 10 * Nat.gcd e 10 = 10 := Nat.div_mul_cancel (Nat.gcd_dvd_right _ _)
    have hc : Nat.Coprime (e / Nat.gcd e 10) (10 / Nat.gcd e 10) := Nat.coprime_div_gcd_div_gcd hg
    generalize e / Nat.gcd e 10 = a at *
    generalize Nat.gcd e 10 = g at *
    generalize 10 / g = b at *
    constructor
    · intro hd
      have h1 : a * g ∣ 10 ^ j * b * g := by rw [he, Nat.mul_assoc, ht, ← Nat.pow_succ]; exact hd
      exact hc.dvd_of_dvd_mul_right (Nat.dvd_of_mul_dvd_mul_right hg h1)
    · intro hd
      rw [← he, Nat.pow_succ]
      exact Nat.mul_dvd_mul hd ⟨b, by rw [Nat.mul_comm]; exact ht.symm⟩
/-- Once nothing more goes, and more than 1 is left, d divides no power. -/
theorem offT_stop {d : Nat} (h : d ≠ 0) {k : Nat} (h1 : offT d k ≠ 1) (hg : Nat.gcd (offT d k) 10 = 1) (j : Nat) : ¬ d ∣ 10 ^ (k + j) := by
  rw [offT_dvd h k j]
  intro hd
  exact h1 ((Nat.Coprime.pow_right j hg).eq_one_of_dvd hd)
/-- The least n for which d divides 10 to the n, up to K. -/
def IsPl (K d : Nat) : Option Nat → Prop
  | some n => n ≤ K ∧ d ∣ 10 ^ n ∧ ∀ m, m < n → ¬ d ∣ 10 ^ m
  | none => ∀ m, m ≤ K → ¬ d ∣ 10 ^ m
theorem IsPl.uniq {K d : Nat} {o p : Option Nat} (h : IsPl K d o) (h' : IsPl K d p) : o = p := by
  match o, p, h, h' with
  | none, none, _, _ => rfl
  | none, some n, h, h' => exact absurd h'.2.1 (h n h'.1)
  | some n, none, h, h' => exact absurd h.2.1 (h' n h.1)
  | some n, some m, h, h' =>
    by_cases h1 : n < m
    · exact absurd h.2.1 (h'.2.2 n h1)
    · by_cases h2 : m < n
      · exact absurd h'.2.1 (h.2.2 m h2)
      · rw [show n = m by omega]
def PlR (v : Value) : Option Nat → Prop
  | some n => v = .tuple #[.int .i64 n, .bool true]
  | none => v = .tuple #[.int .i64 0, .bool false]
theorem limbs_1 (x : Nat) : ((limbs x).length = 1 ∧ nth (limbs x) 0 = 1) ↔ x = 1 := by
  constructor
  · rintro ⟨h1, h2⟩
    have h3 := nv_limbs x
    match h4 : limbs x with
    | [] => rw [h4] at h1; simp at h1
    | [y] =>
      rw [h4] at h2 h3
      have : y = 1 := by rw [nth_lt _ _ (by simp)] at h2; simpa using h2
      subst this
      rw [← h3]
      exact val_one _ _
    | _ :: _ :: _ => rw [h4] at h1; simp at h1
  · rintro rfl
    rw [limbs_one (by decide) (by decide)]
    exact ⟨rfl, by rw [nth_lt _ _ (by simp)]; rfl⟩
theorem limbs_le_len {a b K : Nat} (h : a ≤ b) (hb : (limbs b).length ≤ K) : (limbs a).length ≤ K := (digs_len W32 (by decide) _ _).2 (Nat.lt_of_le_of_lt h ((digs_len W32 (by decide) _ _).1 hb))
theorem gcd10 (e : Nat) : Nat.gcd e 10 ≤ 10 ∧ 0 < Nat.gcd e 10 := ⟨Nat.le_of_dvd (by decide) (Nat.gcd_dvd_right _ _), Nat.gcd_pos_of_pos_right _ (by decide)⟩
set_option maxHeartbeats 2000000 in
theorem places_any {w : World} {v : Value} {q : Rat} (hq : RdQ w v q) (hs : Sz 1000 q) :
    Calls Tryz.prog 6 #[v] w (Gives w fun v' _ => ∃ o, IsPl 1000 q.den o ∧ PlR v' o) := by
  refine via fun R hR => ?_
  have HQ := Lib.hid hq
  have HS := Lib.hid hs
  obtain ⟨z, a, l, c, a', l', c', rfl, -⟩ := hq.op
  obtain ⟨w1, hw1, b1, c1, -, -⟩ := bx1 w [.bool z, .slice a l c, .slice a' l' c'] 26
  have HW := Lib.hid hw1
  have C1 := Lib.hid c1
  clear hw1 c1 hs
  go_enter Tryz.func6, Tryz.ntmps6
  go_upto_region 1 with (fail)
  rw [← HW.out]
  clear HW
  obtain ⟨k0, k1, k2⟩ := C1.out.c3
  go_wp2_with fail
  clear k0 k1 k2
  refine (parts_any (HQ.out.ext b1) (by have := HS.out.1; omega) (by have := HS.out.2; omega)).mono ?_
  rintro e w2 ⟨_, rfl, b2, vn, vd, rfl, on, od⟩
  have OD := Lib.hid od.rd
  have HLD : Hid ((limbs q.den).length ≤ 1000) := HS.out.2
  have HD0 : Hid (q.den ≠ 0) := q.den_nz
  clear on od HS HQ C1
  have b02 := (Ext.trans b1 b2)
  generalize q.den = d at *
  go_wp2_with fail
  go_loopw [6, 7] (fun sd i wr => ∃ k : Nat, i = .int .i64 k ∧ k ≤ 1001 ∧ Hid (RdL wr sd (limbs (offT d k))) ∧ Ext w wr ∧ Hid (∀ m, m < k → ¬ d ∣ 10 ^ m)) (fun _ i _ => 1001 - (intOf i).toNat)
  case atStart => exact ⟨0, rfl, by decide, OD.out, b02, fun m hm => absurd hm (Nat.not_lt_zero m)⟩
  case round =>
    obtain ⟨k, rfl, hk, hO, hx, hN⟩ := hrel
    by_cases hk1 : k = 1001
    · subst hk1
      have FIN : Hid (∀ w', Ext w w' → R (.returned (.tuple #[.int .i64 0, .bool false])) w') := fun w' x => hR.out _ _ (Gives.mk x ⟨none, fun m hm => hN.out m (by omega), rfl⟩)
      go_wp2_with fail
      exact FIN.out _ hx
    · have hle : decide ((k : Int) ≤ 1000) = true := decide_eq_true (by omega)
      have HE0 := Lib.hid (offT_pos HD0.out k)
      have HEL : Hid ((limbs (offT d k)).length ≤ 1000) := limbs_le_len (offT_le k) HLD.out
      have HYES : Hid (offT d k = 1 → ∀ w', Ext w w' → R (.returned (.tuple #[.int .i64 k, .bool true])) w') := fun h1 w' x => hR.out _ _ (Gives.mk x ⟨some k, ⟨by omega, by
        have := (offT_dvd HD0.out k 0).2 (by rw [h1]; exact ⟨1, rfl⟩)
        rwa [Nat.add_zero] at this, hN.out⟩, rfl⟩)
      have HSTOP : Hid (offT d k ≠ 1 → Nat.gcd (offT d k) 10 = 1 → ∀ w', Ext w w' → R (.returned (.tuple #[.int .i64 0, .bool false])) w') := fun h1 hg w' x => hR.out _ _ (Gives.mk x ⟨none, fun m hm hd => by
        by_cases h : m < k
        · exact hN.out m h hd
        · have := offT_stop HD0.out h1 hg (m - k)
          rw [show k + (m - k) = m by omega] at this
          exact this hd, rfl⟩)
      have HNX : Hid (offT d k ≠ 1 → ∀ m, m < k + 1 → ¬ d ∣ 10 ^ m) := fun h1 m hm hd => by
        by_cases h : m < k
        · exact hN.out m h hd
        · obtain rfl : m = k := by omega
          have h2 := (offT_dvd HD0.out m 0).1 (by rwa [Nat.add_zero])
          exact h1 (Nat.dvd_one.1 h2)
      have HST : Hid (offT d (k + 1) = offT d k / Nat.gcd (offT d k) 10) := rfl
      generalize offT d k = u at *
      have h1 := limbs_1 u
      obtain ⟨ad, cd, rfl, -, -, -, hc⟩ := hO.out.1.shape
      have hup : 0 < (limbs u).length := limbs_pos.2 HE0.out
      obtain ⟨bb, off, rfl, hc0⟩ := hc 0 hup
      rw [Nat.add_zero] at hc0
      clear hc
      by_cases hu : u = 1
      · obtain ⟨e1, e2⟩ := h1.2 hu
        rw [e2] at hc0
        have E := Lib.hid (HYES.out hu)
        rw [e1]
        clear h1 hu e1 e2 HYES HSTOP HNX HST hup
        go_wp2_with fail
        exact E.out _ hx
      · have E := Lib.hid (HSTOP.out hu)
        have HNX1 := Lib.hid (HNX.out hu)
        have hge : 0 < Nat.gcd u 10 ∧ Nat.gcd u 10 ≤ 10 := ⟨(gcd10 u).2, (gcd10 u).1⟩
        have HLG : Hid (limbs (Nat.gcd u 10) = [Nat.gcd u 10]) := limbs_one (Nat.lt_of_le_of_lt hge.2 (by decide)) (by omega)
        have HGC : Hid (∀ w v, RdL w v [10] → RdL w (.slice (some ⟨bb, off, none⟩) (limbs u).length cd) (limbs u) → Calls Tryz.prog 28 #[.slice (some ⟨bb, off, none⟩) (limbs u).length cd, v] w (Gives w fun v' w' => OwnL 57 w.heap.size w' v' [Nat.gcd u 10])) := fun w v h1 h2 => by
          have h := gcd_any h2 h1 (by have := HEL.out; omega) (by simp)
          rw [nv_limbs, show nv [10] = 10 from val_one _ _, HLG.out] at h
          exact h
        have HDM : Hid (∀ w v, RdL w v [Nat.gcd u 10] → RdL w (.slice (some ⟨bb, off, none⟩) (limbs u).length cd) (limbs u) → Calls Tryz.prog 29 #[.slice (some ⟨bb, off, none⟩) (limbs u).length cd, v] w (Gives w fun v' w' => ∃ q r, v' = .tuple #[q, r, .bool true] ∧ OwnL 57 w.heap.size w' q (limbs (offT d (k + 1))))) := fun w v h1 h2 => by
          have h := divmod_any h2 h1 (by have := HEL.out; omega) (by simp) (by rw [show nv [Nat.gcd u 10] = Nat.gcd u 10 from val_one _ _]; omega)
          rw [nv_limbs, show nv [Nat.gcd u 10] = Nat.gcd u 10 from val_one _ _, ← HST.out] at h
          refine h.mono fun e w' ⟨v', h1, h2, q, r, h3, h4, _⟩ => ⟨v', h1, h2, q, r, h3, h4⟩
        clear HYES HSTOP HNX HST HLG
        generalize Nat.gcd u 10 = g at *
        by_cases hl : (limbs u).length = 1
        · have hx0 : nth (limbs u) 0 ≠ 1 := fun h => hu (h1.1 ⟨hl, h⟩)
          have hx1 : ((nth (limbs u) 0 : Int) == 1) = false := beqF (by omega)
          rw [hl] at HGC HDM hO ⊢
          clear h1 hu hx0
          generalize nth (limbs u) 0 = x0 at *
          go_wp2_with fail
          refine (HGC.out _ _ (lit1_rd _ 10 (by decide)) (hO.out.ext (Ext.alloc _ _))).mono ?_
          rintro e w3 ⟨v3, rfl, b3, o3⟩
          have O3 := Lib.hid o3.rd
          obtain ⟨a3, c3, rfl, -, -, -, hc3⟩ := o3.rd.1.shape
          obtain ⟨bg, og, rfl, hg0⟩ := hc3 0 (by simp)
          rw [Nat.add_zero, show nth [g] 0 = g by rw [nth_lt _ _ (by simp)]; rfl] at hg0
          clear hc3 o3
          by_cases hg1 : g = 1
          · have hgd : ((g : Int) == 1) = true := beqT (by omega)
            have EE := Lib.hid (E.out hg1)
            clear E hg1
            go_wp2_with fail
            exact EE.out _ (Ext.trans hx (Ext.trans (Ext.alloc _ _) b3))
          · have hgd : ((g : Int) == 1) = false := beqF (by omega)
            clear E hg1
            go_wp2_with fail
            refine (HDM.out _ _ O3.out (hO.out.ext (Ext.trans (Ext.alloc _ _) b3))).mono ?_
            rintro e w4 ⟨_, rfl, b4, q4, r4, rfl, o4⟩
            have O4 := Lib.hid o4.rd
            clear o4
            go_wp2_with fail
            go_roundw
            case rel => exact ⟨k + 1, by go_num, by omega, O4.out, Ext.trans hx (Ext.trans (Ext.alloc _ _) (Ext.trans b3 b4)), HNX1.out⟩
            case measure => simp [intOf] <;> omega
        · have hl1 : (((limbs u).length : Int) == 1) = false := beqF (by omega)
          clear h1 hu hl hc0
          go_wp2_with fail
          refine (HGC.out _ _ (lit1_rd _ 10 (by decide)) (hO.out.ext (Ext.alloc _ _))).mono ?_
          rintro e w3 ⟨v3, rfl, b3, o3⟩
          have O3 := Lib.hid o3.rd
          obtain ⟨a3, c3, rfl, -, -, -, hc3⟩ := o3.rd.1.shape
          obtain ⟨bg, og, rfl, hg0⟩ := hc3 0 (by simp)
          rw [Nat.add_zero, show nth [g] 0 = g by rw [nth_lt _ _ (by simp)]; rfl] at hg0
          clear hc3 o3
          by_cases hg1 : g = 1
          · have hgd : ((g : Int) == 1) = true := beqT (by omega)
            have EE := Lib.hid (E.out hg1)
            clear E hg1
            go_wp2_with fail
            exact EE.out _ (Ext.trans hx (Ext.trans (Ext.alloc _ _) b3))
          · have hgd : ((g : Int) == 1) = false := beqF (by omega)
            clear E hg1
            go_wp2_with fail
            refine (HDM.out _ _ O3.out (hO.out.ext (Ext.trans (Ext.alloc _ _) b3))).mono ?_
            rintro e w4 ⟨_, rfl, b4, q4, r4, rfl, o4⟩
            have O4 := Lib.hid o4.rd
            clear o4
            go_wp2_with fail
            go_roundw
            case rel => exact ⟨k + 1, by go_num, by omega, O4.out, Ext.trans hx (Ext.trans (Ext.alloc _ _) (Ext.trans b3 b4)), HNX1.out⟩
            case measure => simp [intOf] <;> omega
def PtR (q : Rat) (v : Value) : Option Nat → Prop
  | some n => v = .tuple #[.string (strOf (decT q n)), .bool true]
  | none => v = .tuple #[.string ⟨#[]⟩, .bool false]
theorem point_any {w : World} {v : Value} {q : Rat} (hq : RdQ w v q) (hs : Sz 8 q) :
    Calls Tryz.prog 7 #[v] w (Gives w fun v' _ => ∃ o, IsPl 1000 q.den o ∧ PtR q v' o) := by
  refine via fun R hR => ?_
  have HQ := Lib.hid hq
  have HS := Lib.hid hs
  obtain ⟨z, a, l, c, a', l', c', rfl, -⟩ := hq.op
  obtain ⟨w1, hw1, b1, c1, -, -⟩ := bx1 w [.bool z, .slice a l c, .slice a' l' c'] 26
  have HW := Lib.hid hw1
  have C1 := Lib.hid c1
  clear hw1 c1 hs
  go_enter Tryz.func7, Tryz.ntmps7
  go_upto_region 1 with (fail)
  rw [← HW.out]
  clear HW
  obtain ⟨k0, k1, k2⟩ := C1.out.c3
  go_wp2_with fail
  clear k0 k1 k2
  refine (places_any (HQ.out.ext b1) (HS.out.le (by decide))).mono ?_
  rintro e w2 ⟨_, rfl, b2, o, ho, hv⟩
  cases o with
  | none =>
    obtain rfl := hv
    have E := Lib.hid (hR.out _ w2 (Gives.mk (v := .tuple #[.string ⟨#[]⟩, .bool false]) (Ext.trans b1 b2) ⟨none, ho, rfl⟩))
    clear ho
    go_wp2_with fail
    exact E.out
  | some n =>
    obtain rfl := hv
    have HP := Lib.hid ho
    have hn := ho.1
    clear ho
    obtain ⟨k0, k1, k2⟩ := (C1.out.ext b2).c3
    have HD : Hid (Calls Tryz.prog 13 #[.agg #[.bool z, .slice a l c, .slice a' l' c'], .int .i64 n] w2 (Gives w2 fun v' _ => v' = .tuple #[.string (strOf (decT q n)), .int .i64 0])) := dec_any n hn (HQ.out.ext (Ext.trans b1 b2)) HS.out
    go_wp2_with fail
    clear k0 k1 k2
    refine HD.out.mono ?_
    rintro e w3 ⟨_, rfl, b3, rfl⟩
    go_wp2_with fail
    exact hR.out _ _ (Gives.mk (Ext.trans b1 (Ext.trans b2 b3)) ⟨some n, HP.out, rfl⟩)
theorem dvd_num {q : Rat} (T : Nat) : q.num.natAbs * T % q.den = 0 ↔ q.den ∣ T := by
  rw [← Nat.dvd_iff_mod_eq_zero]
  exact ⟨fun h => (Nat.Coprime.symm q.reduced).dvd_of_dvd_mul_left h, fun h => Nat.dvd_mul_left_of_dvd h _⟩
set_option maxHeartbeats 2000000 in
theorem r6places_any {w : World} {v : Value} {q : Rat} (K : Nat) (hK : K ≤ 100) (hq : RdP w v q) (hs : Sb 1000 q) :
    Calls Tryz.prog 9 #[v, .int .i64 K] w (Gives w fun v' _ => ∃ o, IsPl K q.den o ∧ PlR v' o) := by
  refine via fun R hR => ?_
  have HS := Lib.hid hs
  have HDN := Lib.hid q.den_nz
  have HDV := Lib.hid (dvd_num (q := q))
  obtain ⟨n, d, rfl, hn, hd⟩ := hq
  have HN := Lib.hid hn
  have HD := Lib.hid hd
  obtain ⟨w1, hw1, b1, c1, -, -⟩ := bx1 w [.bool (decide (q.num < 0)), n, d] 29
  have HW := Lib.hid hw1
  have C1 := Lib.hid c1
  clear hw1 c1 hn hd hs
  obtain ⟨an, cn, rfl, -, -, -, -⟩ := HN.out.shape
  obtain ⟨ad, cd, rfl, -, -, -, -⟩ := HD.out.shape
  have HTN : Hid (∀ k, k ≤ K → (bitsOf (q.num.natAbs * 10 ^ k)).length ≤ 1401) := fun k hk => Nat.le_trans (bits_mul HS.out.1 (tens_len k 401 (by omega))) (by decide)
  have HDL : Hid ((bitsOf q.den).length ≤ 1000) := HS.out.2
  have HNL : Hid ((bitsOf q.num.natAbs).length ≤ 1000) := HS.out.1
  go_enter Tryz.func9, Tryz.ntmps9
  go_upto_region 1 with (fail)
  rw [← HW.out]
  clear HW HS
  obtain ⟨k0, k1, k2⟩ := C1.out.c3
  go_wp2_with fail
  clear k0 k1 k2
  go_loopw [6, 7] (fun sd i wr => ∃ k : Nat, i = .int .i64 k ∧ k ≤ K + 1 ∧ Hid (RdB wr sd (bitsOf (q.num.natAbs * 10 ^ k))) ∧ Ext w1 wr ∧ Hid (∀ m, m < k → ¬ q.den ∣ 10 ^ m)) (fun _ i _ => K + 1 - (intOf i).toNat)
  case atStart => exact ⟨0, rfl, Nat.zero_le _, by rw [Nat.pow_zero, Nat.mul_one]; exact HN.out.ext b1, Ext.refl _, fun m hm => absurd hm (Nat.not_lt_zero m)⟩
  case round =>
    obtain ⟨k, rfl, hk, hO, hx, hNO⟩ := hrel
    by_cases hk1 : k = K + 1
    · have FIN : Hid (∀ w', Ext w w' → R (.returned (.tuple #[.int .i64 0, .bool false])) w') := fun w' x => hR.out _ _ (Gives.mk x ⟨none, fun m hm => hNO.out m (by omega), rfl⟩)
      have hle : ¬ (k ≤ K) := by omega
      have hle2 : decide ((k : Int) ≤ (K : Int)) = false := decide_eq_false (by omega)
      clear hk1
      go_wp2_with fail
      exact FIN.out _ (Ext.trans b1 hx)
    · have hle : decide ((k : Int) ≤ (K : Int)) = true := decide_eq_true (by omega)
      have HKL := Lib.hid (HTN.out k (by omega))
      have HDT := Lib.hid (HDV.out (10 ^ k))
      have HYES : Hid (q.den ∣ 10 ^ k → ∀ w', Ext w w' → R (.returned (.tuple #[.int .i64 k, .bool true])) w') := fun h w' x => hR.out _ _ (Gives.mk x ⟨some k, ⟨by omega, h, hNO.out⟩, rfl⟩)
      have HNX : Hid (¬ q.den ∣ 10 ^ k → ∀ m, m < k + 1 → ¬ q.den ∣ 10 ^ m) := fun h m hm => by
        by_cases h2 : m < k
        · exact hNO.out m h2
        · obtain rfl : m = k := by omega
          exact h
      have HSUC : Hid (q.num.natAbs * 10 ^ k * 10 = q.num.natAbs * 10 ^ (k + 1)) := by show _ = _; rw [Nat.mul_assoc, ← Nat.pow_succ]
      obtain ⟨ao, co, rfl, -, -, -, -⟩ := hO.out.shape
      obtain ⟨k0, k1, k2⟩ := (C1.out.ext hx).c3
      clear HTN HDV
      go_wp2_with fail
      refine (r3DivMod_any hO.out (HD.out.ext (Ext.trans b1 hx)) HDN.out (by have := HKL.out; omega) (by have := HDL.out; omega)).mono ?_
      rintro e w2 ⟨_, rfl, b2, qq, rr, rfl, oq, orr⟩
      rw [bval_bitsOf] at orr
      have HR2 := Lib.hid orr.rd
      obtain ⟨ar, cr, rfl, -, -, -, -⟩ := HR2.out.shape
      clear oq orr k0 k1 k2
      by_cases hz : q.num.natAbs * 10 ^ k % q.den = 0
      · have hl : (((bitsOf (q.num.natAbs * 10 ^ k % q.den)).length : Int) == 0) = true := beqT (by rw [hz, bitsOf_zero]; rfl)
        have E := Lib.hid (HYES.out (HDT.out.1 hz))
        clear hz
        go_wp2_with fail
        exact E.out _ (Ext.trans b1 (Ext.trans hx b2))
      · have hl : (((bitsOf (q.num.natAbs * 10 ^ k % q.den)).length : Int) == 0) = false := beqF (by have := bits_pos.2 hz; omega)
        have E := Lib.hid (HNX.out fun h => hz (HDT.out.2 h))
        clear hz
        go_wp2_with fail
        refine (word_4 10 rfl (by decide)).mono ?_
        rintro e w3 ⟨v3, rfl, b3, o3⟩
        have O3 := Lib.hid o3.rd
        clear o3
        go_wp2_with fail
        refine (r3mul_to (q.num.natAbs * 10 ^ k) 10 (hO.out.ext (Ext.trans b2 b3)) O3.out (by have := HKL.out; omega) (tens_len 1 50000 (by decide)) HSUC.out).mono ?_
        rintro e w4 ⟨v4, rfl, b4, o4⟩
        have O4 := Lib.hid o4.rd
        clear o4
        go_wp2_with fail
        go_roundw
        case rel => exact ⟨k + 1, by go_num, by omega, O4.out, Ext.trans hx (Ext.trans b2 (Ext.trans b3 b4)), E.out⟩
        case measure => simp [intOf] <;> omega
/-- Where d goes into 10 to the n, the text says the number itself. -/
theorem dec_exact {q : Rat} {n : Nat} (h : q.den ∣ 10 ^ n) : decV q n = q := by
  have hT : (10 ^ n : Nat) ≠ 0 := Nat.pos_iff_ne_zero.1 (Nat.pow_pos (by decide))
  have hQ : decQ q n * q.den = q.num.natAbs * 10 ^ n := Nat.div_mul_cancel (Nat.dvd_mul_left_of_dvd h _)
  have hs : sg (decN q n) (decQ q n) * (q.den : Int) = q.num * ((10 ^ n : Nat) : Int) := by
    have h1 : ((decQ q n : Nat) : Int) * (q.den : Int) = (q.num.natAbs : Int) * ((10 ^ n : Nat) : Int) := by rw [← Int.natCast_mul, ← Int.natCast_mul, hQ]
    unfold decN
    by_cases hn : q.num < 0
    · have hQ0 : decQ q n ≠ 0 := fun h0 => by
        rw [h0, Nat.zero_mul] at hQ
        have := Nat.mul_eq_zero.1 hQ.symm
        rcases this with h2 | h2
        · omega
        · exact hT h2
      rw [decide_eq_true hn, decide_eq_true hQ0]
      show -((decQ q n : Nat) : Int) * _ = _
      rw [Int.neg_mul, h1, ← Int.neg_mul, show -(q.num.natAbs : Int) = q.num by omega]
    · rw [decide_eq_false hn]
      show ((decQ q n : Nat) : Int) * _ = _
      rw [h1, show (q.num.natAbs : Int) = q.num by omega]
  unfold decV
  rw [mkQ_sg _ _ _ _ rfl]
  have := (Rat.mkRat_eq_iff (n₁ := sg (decN q n) (decQ q n)) (n₂ := q.num) hT q.den_nz).2 hs
  rw [this, Rat.mkRat_self]
end Go.Proofs.YtgajpmcjjefghaaGreatDoor
