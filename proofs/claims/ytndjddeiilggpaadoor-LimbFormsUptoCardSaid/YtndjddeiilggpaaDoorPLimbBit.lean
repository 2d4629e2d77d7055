/- limb.Bit -/
import Derived.Test.YtndjddeiilggpaaDoorNumB
import Derived.Test.YtndjddeiilggpaaDoorPLimbCut
namespace Go.Proofs.YtndjddeiilggpaaDoor
open Go.RowKit Go.Att

theorem op_andU {P : Program} {w : World} {ops : Array Oper} {rest : List Oper} {o : Oper} {a : Act} {Q : Exit → Act → World → Prop} {t ty : TypeId} {x y : Operand}
    (hg : Region.wanted o (yielded ops a.tmps) = true) (ho : o.op = .binOp .and t x y ty) {k : IntKind} {Xi Yi : Int} (X Y V : Nat) (hx : a.eval x = .int k Xi) (hy : a.eval y = .int k Yi) (hX : Xi = X) (hY : Yi = Y) (hk : k.signed = false) (hx64 : X < 2 ^ k.bits) (hy64 : Y < 2 ^ k.bits) (hV : X &&& Y = V)
    (h : wpList P ops Q rest (a.put o.dst (.int k V)) w) : wpList P ops Q (o :: rest) a w := by
  subst hX hY
  refine op_bin hg ho hx hy (by constructor <;> intro h <;> cases h) ?_ h
  rw [binOp_and]
  have e : (BitVec.ofInt k.bits (X : Int) &&& BitVec.ofInt k.bits (Y : Int)).toNat = V := by
    rw [BitVec.toNat_and]
    simp only [BitVec.ofInt_natCast, BitVec.toNat_ofNat, Nat.mod_eq_of_lt hx64, Nat.mod_eq_of_lt hy64, hV]
  have hv : V < 2 ^ k.bits := by rw [← hV]; exact Nat.lt_of_le_of_lt Nat.and_le_left hx64
  simp only [Op.intBits, e, wrap_id hk hv]
  rfl
theorem bit_any {w : World} {va : Value} {xs : List Nat} (ha : RdL w va xs) {u : Int} (hu : -9223372036854775808 ≤ u ∧ u ≤ 9223372036854775807) :
    Calls Tryd.prog 13 #[va, .int .i64 u] w (Gives w fun v' _ => v' = .bool (decide (0 ≤ u) && nthB (bitsOf (nv xs)) u.toNat)) := by
  refine via fun R hR => ?_
  obtain ⟨a, ca, rfl, hla, hma, _, hca⟩ := ha.1.shape
  have HA := Lib.hid ha
  have HCA := Lib.hid hca
  clear ha hca
  unfold maxLen at hma
  have FIN : Hid (∀ b : Bool, b = (decide (0 ≤ u) && nthB (bitsOf (nv xs)) u.toNat) → R (.returned (.bool b)) w) := fun b hb => hR.out _ _ (Gives.mk (Ext.refl _) (by rw [hb]))
  by_cases h0 : 0 ≤ u
  · obtain ⟨n, rfl⟩ := Int.eq_ofNat_of_zero_le h0
    have HB : Hid (nthB (bitsOf (nv xs)) n = (nth xs (n / 32) / 2 ^ (n % 32) % 2 == 1)) := by
      show _ = _
      have := limb_bit HA.out.2 (n / 32) (n % 32) (by omega)
      rw [nthB_bits, ← this, show 32 * (n / 32) + n % 32 = n by omega]
    by_cases h1 : n / 32 < xs.length
    · obtain ⟨ba, oa, rfl, hc⟩ := HCA.out (n / 32) h1
      have FA := HA.out.2.nth32 (n / 32)
      obtain ⟨D, hD⟩ : ∃ D, nth xs (n / 32) / 2 ^ (n % 32) = D := ⟨_, rfl⟩
      obtain ⟨E, hE⟩ : ∃ E, D % 2 = E := ⟨_, rfl⟩
      rw [hD, hE] at HB
      have hD1 : D ≤ 4294967295 := by rw [← hD]; exact Nat.le_trans (Nat.div_le_self _ _) FA
      have hE1 : D &&& 1 = E := by rw [Nat.and_one_is_mod, hE]
      have hE2 : E = 0 ∨ E = 1 := by omega
      have HD := Lib.hid hD
      have HE := Lib.hid hE1
      have hs : n % 32 < 32 := Nat.mod_lt _ (by decide)
      clear hD hE hE1
      go_enter Tryd.func13, Tryd.ntmps13
      go_wp2_with (first
        | (refine op_shr rfl rfl (nth xs (n / 32)) (n % 32) D rfl rfl rfl (by go_num) (by show _ ≤ 32; omega) HD.out ?_)
        | (refine op_andU rfl rfl D 1 E rfl rfl rfl rfl rfl (by show _ < 4294967296; omega) (by decide) HE.out ?_))
      exact FIN.out _ (by rw [decide_eq_true h0, Bool.true_and, Int.toNat_natCast, HB.out]; rcases hE2 with rfl | rfl <;> rfl)
    · have HN : Hid (nthB (bitsOf (nv xs)) n = false) := by
        show _ = _
        rw [HB.out, nth_ge _ _ (by omega)]
        simp
      go_enter Tryd.func13, Tryd.ntmps13
      go_wp2
      exact FIN.out _ (by rw [Int.toNat_natCast, HN.out, Bool.and_false])
  · have hd : decide (0 ≤ u) = false := decide_eq_false h0
    go_enter Tryd.func13, Tryd.ntmps13
    go_wp2
    exact FIN.out _ (by rw [hd, Bool.false_and])
end Go.Proofs.YtndjddeiilggpaaDoor
