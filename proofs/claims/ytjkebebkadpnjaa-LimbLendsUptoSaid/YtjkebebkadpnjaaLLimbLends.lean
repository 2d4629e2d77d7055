/- LimbLends: no call changes the lists that it is given, nor the room behind them, and no two answers share memory. Conditions: the arguments hold together at most 1048576 values (the second form, Upto). -/
import Derived.Test.YtjkebebkadpnjaaFrame
import Derived.Test.YtjkebebkadpnjaaPAwake02
import Derived.Test.YtjkebebkadpnjaaPLimbAdd
import Derived.Test.YtjkebebkadpnjaaPLimbShr
import Derived.Test.YtjkebebkadpnjaaPRefCopy
import Derived.Test.YtjkebebkadpnjaaNum5
import Derived.Test.YtjkebebkadpnjaaLend
namespace Go.Proofs.Ytjkebebkadpnjaa.limbLends
open Go.ChangeShapes Go.WideShapes Go.ChangeAt Go.RowKit Go.Att

/-- the three calls that may refuse: whatever they say, their list is their own -/
theorem sub_own {w : World} {va vb : Value} {xa xb : List Nat} (ha : RdL w va xa) (hb : RdL w vb xb) (hna : xa.length ≤ 1099511627776) :
    Calls Try.prog 18 #[va, vb] w (Gives w fun v' w' => ∃ d y xs, v' = .tuple #[d, .bool y] ∧ OwnL 52 w.heap.size w' d xs) := by
  by_cases h : nv xa < nv xb
  · refine (sub_no ha hb h).mono ?_
    rintro e w' ⟨_, rfl, b, rfl⟩
    exact ⟨_, rfl, b, _, _, [], rfl, OwnI.nil _ _ _ _, Fit.nil _⟩
  · refine (sub_yes ha hb (by omega) hna).mono ?_
    rintro e w' ⟨_, rfl, b, d, rfl, o⟩
    exact ⟨_, rfl, b, _, _, _, rfl, o⟩
theorem shl_own {w : World} {va : Value} {xa : List Nat} (n : Int) (ha : RdL w va xa) (hna : xa.length ≤ 1099511627776) :
    Calls Try.prog 26 #[va, .int .i64 n] w (Gives w fun v' w' => ∃ d y xs, v' = .tuple #[d, .bool y] ∧ OwnL 52 w.heap.size w' d xs) := by
  by_cases h : n < 0 ∨ 100000 < n
  · refine (shl_no h).mono ?_
    rintro e w' ⟨rfl, rfl⟩
    exact ⟨_, rfl, Ext.refl _, _, _, [], rfl, OwnI.nil _ _ _ _, Fit.nil _⟩
  · obtain ⟨m, rfl⟩ := Int.eq_ofNat_of_zero_le (show 0 ≤ n by omega)
    refine (shl_any m (by omega) ha hna).mono ?_
    rintro e w' ⟨_, rfl, b, d, rfl, o⟩
    exact ⟨_, rfl, b, _, _, _, rfl, o⟩
theorem shr_own {w : World} {va : Value} {xa : List Nat} (n : Int) (ha : RdL w va xa) (hna : xa.length ≤ 1099511627776) :
    Calls Try.prog 27 #[va, .int .i64 n] w (Gives w fun v' w' => ∃ d y xs, v' = .tuple #[d, .bool y] ∧ OwnL 52 w.heap.size w' d xs) := by
  by_cases h : n < 0 ∨ 100000 < n
  · refine (shr_no h).mono ?_
    rintro e w' ⟨rfl, rfl⟩
    exact ⟨_, rfl, Ext.refl _, _, _, [], rfl, OwnI.nil _ _ _ _, Fit.nil _⟩
  · obtain ⟨m, rfl⟩ := Int.eq_ofNat_of_zero_le (show 0 ≤ n by omega)
    refine (shr_any m (by omega) ha hna).mono ?_
    rintro e w' ⟨_, rfl, b, d, rfl, o⟩
    exact ⟨_, rfl, b, _, _, _, rfl, o⟩

set_option maxRecDepth 100000 in
set_option maxHeartbeats 4000000 in
theorem walk {w : World} {va vb : Value} {xa xb : List Nat} (ha : RdL w va xa) (hla : xa.length ≤ 1048576) (hb : RdL w vb xb) (hlb : xb.length ≤ 1048576) {u : Int} (_hu : -9223372036854775808 ≤ u ∧ u ≤ 9223372036854775807) :
    Calls Try.prog 8 #[va, vb, .int .i64 u] w (Gives w fun v' _ => v' = .bool true) := by
  refine via fun R hR => ?_
  have HA := Lib.hid ha
  have HB := Lib.hid hb
  clear _hu
  obtain ⟨a0, ca0, rfl, hca0, hma0, _, _⟩ := ha.1.shape
  obtain ⟨b0, cb0, rfl, hcb0, hmb0, _, _⟩ := hb.1.shape
  clear ha hb
  unfold maxLen at hma0 hmb0
  go_enter Try.func8, Try.ntmps8
  go_wp2_with (at_make; refine make_cap et32 rfl _ _ rfl _ _ (xa.length + 2) rfl rfl (by omega) (by unfold maxLen; omega) ?_)
  intro w1 o1 b1
  have O1 := Lib.hid o1
  have s1 := b1.size
  clear o1
  go_wp2_with (at_builtin; refine append_rd et32 rfl _ _ rfl w.heap.size rfl O1.out rfl (RdV.ext HA.out.1 b1) (ints_one _ _) (by omega) (by unfold maxLen; omega) s1 ?_)
  intro v2 w2 o2 b2 _
  have O2 := Lib.hid o2
  have b2' : Ext w w2 := Below.trans b1 b2
  have s2 := b2'.size
  clear o2
  go_wp2_with (at_builtin; refine append_rd et32 rfl _ _ rfl w.heap.size rfl (Ext.owns (Ext.alloc _ _) O2.out) rfl (RdV.lit _ _ _ _ 2 rfl (by unfold maxLen; omega)) (by intro u hu; simp at hu; rcases hu with hu | hu <;> (subst hu; rfl)) (by omega) (by unfold maxLen; omega) (by simp; omega) ?_)
  intro v3 w3 o3 b3 _
  have O3 : Hid (OwnL 52 w.heap.size w3 v3 (xa ++ [7, 8])) := ⟨OwnI.app o3 (by simp) rfl, HA.out.2.app (by intro x hx; simp at hx; unfold W32; omega)⟩
  have X3 : Ext w w3 := Below.trans b2' (Below.trans (Below.alloc (Below.refl _ _) s2 _) b3)
  have s3 := X3.size
  clear o3 b3 b2 b1 s1 b2' s2
  obtain ⟨g, cg, rfl, hg1, hg2, hg3⟩ := O3.out.1.there (by simp)
  have RX : Hid (RdL w3 (.slice (some ⟨g, 0, none⟩) xa.length cg) xa) := by
    have h := RdI.take (m := xa.length) O3.out.rd.1 rfl (by simp)
    rw [List.take_left] at h
    exact ⟨h, HA.out.2⟩
  have C7 : Hid (w3.cell? ⟨g, xa.length, none⟩ = some (.int .u32 7)) := by
    have h := O3.out.1.cellAt xa.length (by simp)
    rw [nth_app_right _ _ _ (Nat.le_refl _), Nat.sub_self, show nth [7, 8] 0 = 7 by unfold nth; rfl] at h
    exact h
  have hlen : (xa ++ [7, 8] : List Nat).length = xa.length + 2 := by simp
  rw [hlen] at hg2 ⊢
  unfold maxLen at hg3
  clear hlen
  go_wp2_with (at_make; refine make_cap et32 rfl _ _ rfl _ _ (xb.length + 2) rfl rfl (by omega) (by unfold maxLen; omega) ?_)
  intro w4 o4 b4
  have O4 := Lib.hid o4
  have s4 := b4.size
  clear o4
  go_wp2_with (at_builtin; refine append_rd et32 rfl _ _ rfl w3.heap.size rfl O4.out rfl (RdV.ext HB.out.1 (Ext.trans X3 b4)) (ints_one _ _) (by omega) (by unfold maxLen; omega) s4 ?_)
  intro v5 w5 o5 b5 _
  have O5 := Lib.hid o5
  have b5' : Ext w3 w5 := Below.trans b4 b5
  have s5 := b5'.size
  clear o5
  go_wp2_with (at_builtin; refine append_rd et32 rfl _ _ rfl w3.heap.size rfl (Ext.owns (Ext.alloc _ _) O5.out) rfl (RdV.lit _ _ _ _ 1 rfl (by unfold maxLen; omega)) (by intro u hu; simp at hu; subst hu; rfl) (by omega) (by unfold maxLen; omega) (by simp; omega) ?_)
  intro v6 w6 o6 b6 _
  have O6 : Hid (OwnL 52 w3.heap.size w6 v6 (xb ++ [9])) := ⟨OwnI.app o6 (by simp) rfl, HB.out.2.app (by intro x hx; simp at hx; unfold W32; omega)⟩
  have X6 : Ext w3 w6 := Below.trans b5' (Below.trans (Below.alloc (Below.refl _ _) s5 _) b6)
  have s6 := X6.size
  clear o6 b6 b5 b4 s4 b5' s5
  obtain ⟨h, ch, rfl, hh1, hh2, hh3⟩ := O6.out.1.there (by simp)
  have RY : Hid (RdL w6 (.slice (some ⟨h, 0, none⟩) xb.length ch) xb) := by
    have h := RdI.take (m := xb.length) O6.out.rd.1 rfl (by simp)
    rw [List.take_left] at h
    exact ⟨h, HB.out.2⟩
  have C9 : Hid (w6.cell? ⟨h, xb.length, none⟩ = some (.int .u32 9)) := by
    have h := O6.out.1.cellAt xb.length (by simp)
    rw [nth_app_right _ _ _ (Nat.le_refl _), Nat.sub_self, show nth [9] 0 = 9 by unfold nth; rfl] at h
    exact h
  have hlen : (xb ++ [9] : List Nat).length = xb.length + 1 := by simp
  rw [hlen] at hh2 ⊢
  unfold maxLen at hh3
  clear hlen O1 O2 O4 O5
  have RX6 := Lib.hid (RX.out.ext X6)
  have E6 := Ext.trans X3 X6
  go_wp2_with fail
  refine (add_any RX6.out RY.out (by omega) (by omega)).mono ?_
  rintro e w7 ⟨v7, rfl, b7, o7⟩
  have O7 := Lib.hid o7
  clear o7
  have E7 := Ext.trans E6 b7
  go_wp2_with fail
  refine (norm_any (RX6.out.ext b7) (by omega)).mono ?_
  rintro e w8 ⟨v8, rfl, b8, o8⟩
  have O8 := Lib.hid o8
  clear o8
  go_wp2_with fail
  refine (sub_own (RX6.out.ext (Ext.trans b7 b8)) (RY.out.ext (Ext.trans b7 b8)) (by omega)).mono ?_
  rintro e w9 ⟨_, rfl, b9, v9, y9, x9, rfl, o9⟩
  have O9 := Lib.hid o9
  clear o9
  go_wp2_with fail
  refine (shl_own u (RX6.out.ext (Ext.trans b7 (Ext.trans b8 b9))) (by omega)).mono ?_
  rintro e w10 ⟨_, rfl, b10, v10, y10, x10, rfl, o10⟩
  have O10 := Lib.hid o10
  clear o10
  go_wp2_with fail
  refine (shr_own u (RX6.out.ext (Ext.trans b7 (Ext.trans b8 (Ext.trans b9 b10)))) (by omega)).mono ?_
  rintro e w11 ⟨_, rfl, b11, v11, y11, x11, rfl, o11⟩
  have O11 := Lib.hid o11
  clear o11
  go_wp2_with fail
  refine (awake02).mono ?_
  rintro e w12 ⟨_, rfl, b12, rfl⟩
  go_wp2_with fail
  refine (Same_yes (RX6.out.ext (Ext.trans b7 (Ext.trans b8 (Ext.trans b9 (Ext.trans b10 (Ext.trans b11 b12)))))) (HA.out.ext (Ext.trans E6 (Ext.trans b7 (Ext.trans b8 (Ext.trans b9 (Ext.trans b10 (Ext.trans b11 b12))))))) rfl).mono ?_
  rintro e w13 ⟨_, rfl, b13, rfl⟩
  go_wp2_with fail
  refine (Same_yes (RY.out.ext (Ext.trans b7 (Ext.trans b8 (Ext.trans b9 (Ext.trans b10 (Ext.trans b11 (Ext.trans b12 b13))))))) (HB.out.ext (Ext.trans E6 (Ext.trans b7 (Ext.trans b8 (Ext.trans b9 (Ext.trans b10 (Ext.trans b11 (Ext.trans b12 b13)))))))) rfl).mono ?_
  rintro e w14 ⟨_, rfl, b14, rfl⟩
  have c7 := Ext.cell (Ext.trans X6 (Ext.trans b7 (Ext.trans b8 (Ext.trans b9 (Ext.trans b10 (Ext.trans b11 (Ext.trans b12 (Ext.trans b13 b14)))))))) C7.out
  have c9 := Ext.cell (Ext.trans b7 (Ext.trans b8 (Ext.trans b9 (Ext.trans b10 (Ext.trans b11 (Ext.trans b12 (Ext.trans b13 b14))))))) C9.out
  go_wp2_with fail
  clear c7 c9
  have LA := Nat.le_trans (limbs_len_le HA.out.2) hla
  have LB := Nat.le_trans (limbs_len_le HB.out.2) hlb
  have LS := limbs_add LA LB
  refine (Copy_any (O7.out.rd.ext (Ext.trans b8 (Ext.trans b9 (Ext.trans b10 (Ext.trans b11 (Ext.trans b12 (Ext.trans b13 b14))))))) (by omega)).mono ?_
  rintro e w15 ⟨v15, rfl, b15, o15⟩
  have O15 := Lib.hid o15
  clear o15
  obtain ⟨a8, c8, rfl, _, _, _, _⟩ := O8.out.rd.1.shape
  obtain ⟨a9, c9, rfl, _, _, _, _⟩ := O9.out.rd.1.shape
  obtain ⟨a10, c10, rfl, _, _, _, _⟩ := O10.out.rd.1.shape
  obtain ⟨a11, c11, rfl, _, _, _, _⟩ := O11.out.rd.1.shape
  have z78 := b8.size
  have z89 := b9.size
  have z910 := b10.size
  have z1011 := b11.size
  have z1114 := ((Ext.trans b12 (Ext.trans b13 b14)) : Ext w11 w14).size
  have z15 := b15.size
  have z67 := b7.size
  have M8 : Mine w7.heap.size w14.heap.size (w15.alloc (.cells #[(.slice a8 (limbs (nv xa)).length c8), (.slice a9 x9.length c9), (.slice a10 x10.length c10), (.slice a11 x11.length c11)] 22)) (.slice a8 (limbs (nv xa)).length c8) _ := (Mine.of_own O8.out.1 (by omega)).ext (Ext.trans (Ext.trans b9 (Ext.trans b10 (Ext.trans b11 (Ext.trans b12 (Ext.trans b13 (Ext.trans b14 b15)))))) (Ext.alloc _ _))
  have M9 : Mine w7.heap.size w14.heap.size (w15.alloc (.cells #[(.slice a8 (limbs (nv xa)).length c8), (.slice a9 x9.length c9), (.slice a10 x10.length c10), (.slice a11 x11.length c11)] 22)) (.slice a9 x9.length c9) _ := ((Mine.of_own (C := w14.heap.size) O9.out.1 (by omega)).mono (by omega) (Nat.le_refl _)).ext (Ext.trans (Ext.trans b10 (Ext.trans b11 (Ext.trans b12 (Ext.trans b13 (Ext.trans b14 b15))))) (Ext.alloc _ _))
  have M10 : Mine w7.heap.size w14.heap.size (w15.alloc (.cells #[(.slice a8 (limbs (nv xa)).length c8), (.slice a9 x9.length c9), (.slice a10 x10.length c10), (.slice a11 x11.length c11)] 22)) (.slice a10 x10.length c10) _ := ((Mine.of_own (C := w14.heap.size) O10.out.1 (by omega)).mono (by omega) (Nat.le_refl _)).ext (Ext.trans (Ext.trans b11 (Ext.trans b12 (Ext.trans b13 (Ext.trans b14 b15)))) (Ext.alloc _ _))
  have M11 : Mine w7.heap.size w14.heap.size (w15.alloc (.cells #[(.slice a8 (limbs (nv xa)).length c8), (.slice a9 x9.length c9), (.slice a10 x10.length c10), (.slice a11 x11.length c11)] 22)) (.slice a11 x11.length c11) _ := ((Mine.of_own (C := w14.heap.size) O11.out.1 (by omega)).mono (by omega) (Nat.le_refl _)).ext (Ext.trans (Ext.trans b12 (Ext.trans b13 (Ext.trans b14 b15))) (Ext.alloc _ _))
  have HM := Lib.hid (And.intro M8 (And.intro M9 (And.intro M10 M11)))
  have EW : Hid (Ext w (w15.alloc (.cells #[(.slice a8 (limbs (nv xa)).length c8), (.slice a9 x9.length c9), (.slice a10 x10.length c10), (.slice a11 x11.length c11)] 22))) := Ext.trans E6 (Ext.trans (Ext.trans b7 (Ext.trans b8 (Ext.trans b9 (Ext.trans b10 (Ext.trans b11 (Ext.trans b12 (Ext.trans b13 (Ext.trans b14 b15)))))))) (Ext.alloc _ _))
  have EW6 : Hid (Ext w6 (w15.alloc (.cells #[(.slice a8 (limbs (nv xa)).length c8), (.slice a9 x9.length c9), (.slice a10 x10.length c10), (.slice a11 x11.length c11)] 22))) := Ext.trans (Ext.trans b7 (Ext.trans b8 (Ext.trans b9 (Ext.trans b10 (Ext.trans b11 (Ext.trans b12 (Ext.trans b13 (Ext.trans b14 b15)))))))) (Ext.alloc _ _)
  have EW7 : Hid (Ext w7 (w15.alloc (.cells #[(.slice a8 (limbs (nv xa)).length c8), (.slice a9 x9.length c9), (.slice a10 x10.length c10), (.slice a11 x11.length c11)] 22))) := Ext.trans (Ext.trans b8 (Ext.trans b9 (Ext.trans b10 (Ext.trans b11 (Ext.trans b12 (Ext.trans b13 (Ext.trans b14 b15))))))) (Ext.alloc _ _)
  have ET : Hid (OwnL 52 w14.heap.size (w15.alloc (.cells #[(.slice a8 (limbs (nv xa)).length c8), (.slice a9 x9.length c9), (.slice a10 x10.length c10), (.slice a11 x11.length c11)] 22)) v15 (limbs (nv xa + nv xb))) := O15.out.ext (Ext.alloc _ _)
  have zw : w.heap.size ≤ w6.heap.size := E6.size
  have HL0 : Hid (∀ k, k < 4 → (w15.alloc (.cells #[(.slice a8 (limbs (nv xa)).length c8), (.slice a9 x9.length c9), (.slice a10 x10.length c10), (.slice a11 x11.length c11)] 22)).cell? ⟨w15.heap.size, k, none⟩ = #[(.slice a8 (limbs (nv xa)).length c8), (.slice a9 x9.length c9), (.slice a10 x10.length c10), (.slice a11 x11.length c11)][k]?) := by
    intro k hk
    rw [cell_of_row _ _ k #[(.slice a8 (limbs (nv xa)).length c8), (.slice a9 x9.length c9), (.slice a10 x10.length c10), (.slice a11 x11.length c11)] 22 (0, 0) (_root_.Go.heap_alloc_new w15 _)]
  clear M8 M9 M10 M11 LA LB LS E6 E7 O8 O9 O10 O11 b7 b8 b9 b10 b11 b12 b13 b14 b15
  go_wp2_with fail
  generalize hW0 : w15.alloc (.cells #[(.slice a8 (limbs (nv xa)).length c8), (.slice a9 x9.length c9), (.slice a10 x10.length c10), (.slice a11 x11.length c11)] 22) = W0 at *
  generalize hG : w15.heap.size = GL at *
  clear hW0 hG
  go_loopw [114] (fun i wr => ∃ k : Nat, i = .int .i64 k ∧ k ≤ 4 ∧ Hid (Mine w7.heap.size w14.heap.size wr (.slice a8 (limbs (nv xa)).length c8) (limbs (nv xa)).length ∧ Mine w7.heap.size w14.heap.size wr (.slice a9 x9.length c9) x9.length ∧ Mine w7.heap.size w14.heap.size wr (.slice a10 x10.length c10) x10.length ∧ Mine w7.heap.size w14.heap.size wr (.slice a11 x11.length c11) x11.length) ∧ Besides w7.heap.size w14.heap.size W0 wr) (fun i _ => 4 - (intOf i).toNat)
  case atStart => exact ⟨0, rfl, by omega, HM.out, Besides.refl _ _ _⟩
  case round =>
    obtain ⟨k, rfl, hk, hM, hbes⟩ := hrel
    by_cases hlt : k < 4
    · have hcell0 : wr.cell? ⟨GL, k, none⟩ = #[(.slice a8 (limbs (nv xa)).length c8), (.slice a9 x9.length c9), (.slice a10 x10.length c10), (.slice a11 x11.length c11)][k]? := by
        rw [← HL0.out k hlt]
        exact World.cell?_of_block (w := W0) (hbes.block GL (by omega))
      obtain ⟨vk, nk, hcell, hmine⟩ : ∃ vk nk, wr.cell? ⟨GL, k, none⟩ = some vk ∧ Mine w7.heap.size w14.heap.size wr vk nk := by
        have hk4 : k = 0 ∨ k = 1 ∨ k = 2 ∨ k = 3 := by omega
        rcases hk4 with rfl | rfl | rfl | rfl
        · exact ⟨(.slice a8 (limbs (nv xa)).length c8), _, hcell0, hM.out.1⟩
        · exact ⟨(.slice a9 x9.length c9), _, hcell0, hM.out.2.1⟩
        · exact ⟨(.slice a10 x10.length c10), _, hcell0, hM.out.2.2.1⟩
        · exact ⟨(.slice a11 x11.length c11), _, hcell0, hM.out.2.2.2⟩
      clear hcell0
      have hmine0 := hmine
      obtain ⟨ak, ck, rfl, hnk, hck, _⟩ := hmine
      have HK := Lib.hid hmine0
      clear hmine0
      unfold maxLen at hck
      go_wp2_with fail
      clear hcell
      obtain ⟨wo, rfl⟩ : ∃ wo : World, wo = wr := ⟨_, rfl⟩
      go_loopw [120] (fun i wr => ∃ j : Nat, i = .int .i64 j ∧ j ≤ nk ∧ Hid (Mine w7.heap.size w14.heap.size wr (.slice ak nk ck) nk) ∧ Hid (Mine w7.heap.size w14.heap.size wr (.slice a8 (limbs (nv xa)).length c8) (limbs (nv xa)).length ∧ Mine w7.heap.size w14.heap.size wr (.slice a9 x9.length c9) x9.length ∧ Mine w7.heap.size w14.heap.size wr (.slice a10 x10.length c10) x10.length ∧ Mine w7.heap.size w14.heap.size wr (.slice a11 x11.length c11) x11.length) ∧ Besides w7.heap.size w14.heap.size W0 wr) (fun i _ => nk - (intOf i).toNat)
      case atStart => exact ⟨0, rfl, Nat.zero_le _, HK.out, hM.out, hbes⟩
      case round =>
        obtain ⟨j, rfl, hj, hK, hM2, hbes2⟩ := hrel
        clear hbes
        by_cases hlt2 : j < nk
        · have hK0 := hK.out
          obtain ⟨a2, c2, hv2, _, _, h0 | ⟨g2, ha2, hB2, hC2, hr2⟩⟩ := hK0
          · omega
          simp only [Value.slice.injEq] at hv2
          obtain ⟨rfl, _, rfl⟩ := hv2
          subst ha2
          obtain ⟨u2, hcu⟩ := hr2.cell hlt2
          have hfu := hr2.free j
          clear hr2
          go_wp2_with fail
          go_roundw
          case rel => exact ⟨j + 1, by go_num, by omega, hK.out.set _ _ _, ⟨hM2.out.1.set _ _ _, hM2.out.2.1.set _ _ _, hM2.out.2.2.1.set _ _ _, hM2.out.2.2.2.set _ _ _⟩, hbes2.set hB2 hC2 _⟩
          case measure => simp [intOf] <;> omega
        · go_wp2_with fail
          go_roundw
          case rel => exact ⟨k + 1, by go_num, by omega, hM2.out, hbes2⟩
          case measure => simp [intOf] <;> omega
    · have hbl := hbes.below
      have F6 : Ext w6 wr := Below.trans EW6.out (Below.mono hbl (by omega))
      have F7 : Ext w7 wr := Below.trans EW7.out hbl
      have F0 : Ext w wr := Below.trans EW.out (Below.mono hbl (by omega))
      have FT : RdL wr v15 (limbs (nv xa + nv xb)) := ⟨(ET.out.1.besides hbes).rd, ET.out.2⟩
      have HFT := Lib.hid FT
      clear FT hbl
      go_wp2_with fail
      refine (Same_yes (RX6.out.ext F6) (HA.out.ext F0) rfl).mono ?_
      rintro e w16 ⟨_, rfl, b16, rfl⟩
      go_wp2_with fail
      refine (Same_yes (RY.out.ext (Ext.trans F6 b16)) (HB.out.ext (Ext.trans F0 b16)) rfl).mono ?_
      rintro e w17 ⟨_, rfl, b17, rfl⟩
      go_wp2_with fail
      refine (Same_yes (O7.out.rd.ext (Ext.trans F7 (Ext.trans b16 b17))) (HFT.out.ext (Ext.trans b16 b17)) rfl).mono ?_
      rintro e w18 ⟨_, rfl, b18, rfl⟩
      go_wp2_with fail
      exact hR.out _ _ (Gives.mk (Ext.trans F0 (Ext.trans b16 (Ext.trans b17 b18))) rfl)
theorem own : ownKnob Try.prog.godebug = none := by kernel_rfl
theorem laidOut : laidOutB Try.prog = true := by kernel_rfl

set_option maxRecDepth 100000 in
theorem contract (H : Type) (enc : TypeId × Value → H) (W : World) (base : Nat) (args : Array Value) (ds gs : List (DataW H)) (before : List MemPlace)
    (hval : ∀ (j : Nat) t v, Try.f8.params[j]? = some t → args[j]? = some v → Value.okWide Try.prog W .any base t v)
    (hW : DataW.Whole enc Try.prog Try.f8.params.toList Rows.limbLendsSpec.vars false W args.toList ds gs before) (hk : Rows.uptoSmall H (ds ++ gs) = true) :
    Calls Try.prog 8 args W fun e W' => ∃ v, e = .returned v ∧ Rows.limbLendsSpec.post enc Try.prog Try.f8 false true false false W args v W' := by
  have hW' := hW
  obtain ⟨p, q, hA0, hV, rfl, hfz, hnd⟩ := hW
  have hA : DataW.TrodAll enc Try.prog W 0 (fun _ => true) true Try.f8.params.toList args.toList ds p := hA0
  rw [Try.params8] at hA hval
  obtain ⟨v0, vs0, d0, ds0, p0, q0, hargs, rfl, rfl, h0, r0⟩ := trodAll_cons hA
  obtain ⟨v1, vs1, d1, ds1, p1, q1, rfl, rfl, rfl, h1, r1⟩ := trodAll_cons r0
  obtain ⟨v2, vs2, d2, ds2, p2, q2, rfl, rfl, rfl, h2, r2⟩ := trodAll_cons r1
  obtain ⟨rfl, rfl, rfl⟩ := trodAll_nil r2
  obtain rfl : args = #[v0, v1, v2] := by cases args; simp_all
  obtain ⟨rfl, rfl⟩ := trodVars_none hV
  have hb := bulk_small hk
  simp only [List.append_nil, bulk_cons, bulk_nil] at hb
  have k0 := h0
  have lt0 : ∀ x ∈ p0, x.block < W.heap.size := by obtain ⟨m, hm⟩ := k0; exact DataW.trod_lt m _ _ _ hm
  obtain ⟨x0, rd0, len0⟩ := open_u32s (hval 0 22 v0 rfl rfl) h0
  have k1 := h1
  have lt1 : ∀ x ∈ p1, x.block < W.heap.size := by obtain ⟨m, hm⟩ := k1; exact DataW.trod_lt m _ _ _ hm
  obtain ⟨x1, rd1, len1⟩ := open_u32s (hval 1 22 v1 rfl rfl) h1
  obtain ⟨a2, rfl, rfl, rfl, wf2⟩ := open_int Try.underlying3 (hval 2 3 v2 rfl rfl) h2
  clear hA0
  refine (walk rd0 (by omega) rd1 (by omega) (wf_int wf2)).mono fun e W' ⟨v, he, bel, hv⟩ => ?_
  subst he hv
  exact ⟨_, rfl, _, _, _, [], _, [], hW', trodAll_mk1 (shut_bool Try.underlying4 _), (trodAll_cons_mk (Below.trod laidOut (by kernel_rfl) (of_decide_eq_true (by kernel_rfl)) k0 bel lt0) (trodAll_cons_mk (Below.trod laidOut (by kernel_rfl) (of_decide_eq_true (by kernel_rfl)) k1 bel lt1) (trodAll_cons_mk (shut_int Try.underlying3 wf2) trodAll_mk0))), rfl, bel.frame _, fun h => by cases h⟩

set_option maxRecDepth 100000 in
theorem lifted (os : Os) (started : os.Started) (H : Type) (enc : TypeId × Value → H) (F : Stop.Interp) :
    ReturnsInHanded {} Try.checked os 8 .any ((Rows.OpenSpec.upto Rows.limbLendsSpec).pre6 enc Try.prog Try.f8 Rows.limbLendsUptoRow.domain false) (((Rows.OpenSpec.upto Rows.limbLendsSpec).at F).post enc Try.prog Try.f8 false true false false) := by
  refine returnsInHanded_of_cond (C := Try.checked) (s := Rows.OpenSpec.upto Rows.limbLendsSpec) (k := Rows.uptoSmall) rfl own started (by kernel_rfl) Try.func8
    (OpenSpec.witness (enc := enc) (C := Try.checked) (s := Rows.OpenSpec.upto Rows.limbLendsSpec) (k := Rows.uptoSmall) rfl false ⟨#[], #[.slice none 0 0, .slice none 0 0, .int .i64 0], []⟩ 8 (by kernel_rfl) (by kernel_rfl) (by kernel_rfl)
      (x := ([.nil, .nil, .lit (.int .i64 0)], [], [])) (by kernel_rfl) rfl (by kernel_rfl)) ?_
  intro W base args ds gs before hval hW _ hk _
  exact contract H enc W base args ds gs before hval hW hk

theorem proved : Rows.LimbLendsUptoSaid :=
  OpenClaim.holds_of_cond 8 Try.f8 rfl rfl rfl rfl rfl rfl rfl ⟨rfl, rfl, rfl, rfl, rfl⟩ rfl rfl rfl rfl rfl (by kernel_rfl) Try.func8 (by kernel_rfl)
    (of_decide_eq_true (by kernel_rfl)) (by unfold Func.isWrapper; first | (rw [if_pos (by decide +kernel)]; kernel_rfl) | (rw [if_neg (by decide +kernel)]; exact ⟨rfl, rfl⟩))
    (fun os started H enc _ F => lifted os started H enc F)
#print axioms proved

end Go.Proofs.Ytjkebebkadpnjaa.limbLends
