/- nat.Gcd, nat.Lcm -/
import Derived.Test.YtblbpelaleaonaaPNatDivMod
import Derived.Test.YtblbpelaleaonaaPNatMul
import Derived.Deep.LoopGhost
namespace Go.Proofs.Ytblbpelaleaonaa
open Go.RowKit Go.Att

theorem limbs_pos {y : Nat} : 0 < (limbs y).length ↔ y ≠ 0 := by
  have := digs_nil W32 W32_ge y
  show 0 < (digs W32 y).length ↔ _
  omega

set_option maxHeartbeats 1000000 in
theorem gcd_any {w : World} {va vb : Value} {xa xb : List Nat} (ha : RdL w va xa) (hb : RdL w vb xb) (hna : xa.length ≤ 549755813888) (hnb : xb.length ≤ 549755813888) :
    Calls Try.prog 22 #[va, vb] w (Gives w fun v' w' => OwnL 32 w.heap.size w' v' (limbs (Nat.gcd (nv xa) (nv xb)))) := by
  refine via fun R hR => ?_
  have HA := Lib.hid ha
  have HB := Lib.hid hb
  have hla := limbs_len_le ha.2
  have hlb := limbs_len_le hb.2
  clear ha hb
  go_enter Try.func22, Try.ntmps22
  go_wp2_with fail
  refine (norm_any HA.out (by omega)).mono ?_
  rintro e w1 ⟨v1, rfl, b1, o1⟩
  have O1 := Lib.hid o1
  clear o1
  go_wp2_with fail
  refine (norm_any (HB.out.ext b1) (by omega)).mono ?_
  rintro e w2 ⟨v2, rfl, b2, o2⟩
  have O2 := Lib.hid o2
  clear o2
  have s1 := b1.size
  go_wp2_with fail
  go_loopg [0, 1] (nv xb) (fun gk s0 s1 wr => ∃ (x y : Nat), y = gk ∧ (limbs x).length ≤ 549755813888 ∧ (limbs y).length ≤ 549755813888 ∧ Hid (OwnL 32 w.heap.size wr s0 (limbs x)) ∧ Hid (OwnL 32 w.heap.size wr s1 (limbs y)) ∧ Hid (Nat.gcd x y = Nat.gcd (nv xa) (nv xb)) ∧ Ext w wr)
  case atStart => exact ⟨_, _, rfl, by omega, by omega, O1.out.ext b2, O2.out.mono s1, rfl, Ext.trans b1 b2⟩
  case round =>
    obtain ⟨x, y, rfl, hlx, hly, hO, hP, hg, hbel⟩ := hrel
    have hs := hbel.size
    obtain ⟨b, cb, rfl, hcb1, hmb, _, _⟩ := hP.out.rd.1.shape
    unfold maxLen at hmb
    by_cases h0 : y = 0
    · have hl0 : (limbs y).length ≤ 0 := by have := (limbs_pos (y := y)); omega
      have E : Hid (x = Nat.gcd (nv xa) (nv xb)) := by show _ = _; rw [← hg.out, h0, Nat.gcd_zero_right]
      clear h0
      go_wp2_with fail
      exact hR.out _ _ (Gives.mk hbel (by rw [← E.out]; exact hO.out))
    · have hl0 : 0 < (limbs y).length := limbs_pos.2 h0
      have H0 := Lib.hid h0
      have E : Hid (Nat.gcd y (x % y) = Nat.gcd (nv xa) (nv xb)) := by
        show _ = _
        rw [← hg.out, Nat.gcd_comm y, ← Nat.gcd_rec, Nat.gcd_comm]
      have hmod : x % y < y := Nat.mod_lt _ (by omega)
      have hml := limbs_mono (Nat.le_of_lt hmod)
      clear h0
      go_wp2_with fail
      refine (divmod_any hO.out.rd hP.out.rd (by omega) (by omega) (by rw [nv_limbs]; exact H0.out)).mono ?_
      rintro e w3 ⟨_, rfl, b3, q3, r3, rfl, _, o3⟩
      rw [nv_limbs, nv_limbs] at o3
      have O3 := Lib.hid o3
      clear o3
      go_wp2_with fail
      go_roundg (x % y)
      case measure => exact hmod
      case rel => exact ⟨y, x % y, rfl, by omega, by omega, hP.out.ext b3, O3.out.mono hs, E.out, Ext.trans hbel b3⟩

theorem lcm_any {w : World} {va vb : Value} {xa xb : List Nat} (ha : RdL w va xa) (hb : RdL w vb xb) (hna : xa.length ≤ 274877906944) (hnb : xb.length ≤ 274877906944) :
    Calls Try.prog 23 #[va, vb] w (Gives w fun v' w' => OwnL 32 w.heap.size w' v' (limbs (nv xa / Nat.gcd (nv xa) (nv xb) * nv xb))) := by
  refine via fun R hR => ?_
  have HA := Lib.hid ha
  have HB := Lib.hid hb
  have hla := limbs_len_le ha.2
  clear ha hb
  go_enter Try.func23, Try.ntmps23
  go_wp2_with fail
  refine (gcd_any HA.out HB.out (by omega) (by omega)).mono ?_
  rintro e w1 ⟨v1, rfl, b1, o1⟩
  have O1 := Lib.hid o1
  clear o1
  obtain ⟨g, cg, rfl, hcg1, hmg, _, _⟩ := O1.out.rd.1.shape
  have s1 := b1.size
  have hgl : (limbs (Nat.gcd (nv xa) (nv xb))).length ≤ xa.length + xb.length := by
    have hlb := limbs_len_le HB.out.2
    by_cases h : nv xa = 0
    · rw [h, Nat.gcd_zero_left]; omega
    · have := limbs_mono (Nat.gcd_le_left (nv xb) (show 0 < nv xa by omega)); omega
  unfold maxLen at hmg
  by_cases h0 : Nat.gcd (nv xa) (nv xb) = 0
  · have hl0 : (limbs (Nat.gcd (nv xa) (nv xb))).length ≤ 0 := by have := (limbs_pos (y := Nat.gcd (nv xa) (nv xb))); omega
    have E : Hid (nv xa / Nat.gcd (nv xa) (nv xb) * nv xb = 0) := by show _ = _; rw [h0, Nat.div_zero, Nat.zero_mul]
    have hb0 : (((limbs (Nat.gcd (nv xa) (nv xb))).length : Int) == 0) = true := beqT (by omega)
    clear h0
    go_wp2_with fail
    exact hR.out _ _ (Gives.mk b1 (by rw [E.out]; unfold limbs; rw [digs_zero]; exact ⟨OwnI.nil _ _ _ _, Fit.nil _⟩))
  · have hb0 : (((limbs (Nat.gcd (nv xa) (nv xb))).length : Int) == 0) = false := beqF (by have := limbs_pos.2 h0; omega)
    have H0 := Lib.hid h0
    clear h0
    go_wp2_with fail
    refine (divmod_any (HA.out.ext b1) O1.out.rd (by omega) (by omega) (by rw [nv_limbs]; exact H0.out)).mono ?_
    rintro e w2 ⟨_, rfl, b2, q2, r2, rfl, o2, _⟩
    rw [nv_limbs] at o2
    have O2 := Lib.hid o2
    clear o2
    have hql := limbs_mono (Nat.div_le_self (nv xa) (Nat.gcd (nv xa) (nv xb)))
    have s2 := b2.size
    go_wp2_with fail
    refine (mul_any O2.out.rd (HB.out.ext (Ext.trans b1 b2)) (by omega) (by omega)).mono ?_
    rintro e w3 ⟨v3, rfl, b3, o3⟩
    have O3 := Lib.hid o3
    clear o3
    rw [nv_limbs] at O3
    go_wp2_with fail
    exact hR.out _ _ (Gives.mk (Ext.trans b1 (Ext.trans b2 b3)) (O3.out.mono (by omega)))
end Go.Proofs.Ytblbpelaleaonaa
