/- limb.Sub -/
import Derived.Test.YtndjddeiilggpaaDoorPLimbCmp
namespace Go.Proofs.YtndjddeiilggpaaDoor
open Go.RowKit Go.Att

theorem sub_no {w : World} {va vb : Value} {xa xb : List Nat} (ha : RdL w va xa) (hb : RdL w vb xb) (hlt : nv xa < nv xb) :
    Calls Tryd.prog 16 #[va, vb] w (Gives w fun v' _ => v' = .tuple #[.slice none 0 0, .bool false]) := by
  refine via fun R hR => ?_
  have HA := Lib.hid ha
  have HB := Lib.hid hb
  have HC := Lib.hid (cmpN_lt hlt)
  clear ha hb hlt
  go_enter Tryd.func16, Tryd.ntmps16
  go_wp2_with fail
  refine (cmp_any HA.out HB.out).mono ?_
  rintro e w' ⟨v', rfl, hx, rfl⟩
  rw [HC.out]
  go_wp2
  exact hR.out _ _ (Gives.mk hx rfl)

theorem sub_yes {w : World} {va vb : Value} {xa xb : List Nat} (ha : RdL w va xa) (hb : RdL w vb xb) (hle : nv xb ≤ nv xa) (hna : xa.length ≤ 1099511627776) :
    Calls Tryd.prog 16 #[va, vb] w (Gives w fun v' w' => ∃ d, v' = .tuple #[d, .bool true] ∧ OwnL 34 w.heap.size w' d (limbs (nv xa - nv xb))) := by
  refine via fun R hR => ?_
  have HA := Lib.hid ha
  have HB := Lib.hid hb
  have HLE := Lib.hid hle
  have hc : 0 ≤ cmpN (nv xa) (nv xb) := by
    rcases cmpN_cases (nv xa) (nv xb) with ⟨h, _⟩ | ⟨_, h⟩ | ⟨_, h⟩ <;> omega
  obtain ⟨a, ca, rfl, hla, hma, _, hca⟩ := ha.1.shape
  obtain ⟨b, cb, rfl, hlb, hmb, _, hcb⟩ := hb.1.shape
  have HCA := Lib.hid hca
  have HCB := Lib.hid hcb
  clear ha hb hle hca hcb
  unfold maxLen at hma hmb
  generalize hcc : cmpN (nv xa) (nv xb) = cc at *
  have HCC := Lib.hid hcc
  clear hcc
  go_enter Tryd.func16, Tryd.ntmps16
  go_wp2_with fail
  refine (cmp_any HA.out HB.out).mono ?_
  rintro e w' ⟨v', rfl, hx, rfl⟩
  rw [HCC.out]
  go_wp2_with (at_make; refine make_ints et32 rfl _ _ rfl _ _ xa.length rfl rfl (by omega) (by unfold maxLen; omega) ?_)
  intro w1 ho hext
  have HO := Lib.hid ho
  have hsz := hext.size
  have hx0 := Ext.trans hx hext
  have hsz0 := hx.size
  clear ho
  go_wp2_with fail
  go_loopw [7, 20] (fun c i wr => ∃ (k : Nat) (o : List Nat) (cc : Nat), i = .int .i64 k ∧ k ≤ xa.length ∧ o.length = xa.length ∧ c = .int .i64 cc ∧ cc ≤ 1 ∧ Hid (OwnL 34 w.heap.size wr (.slice (some ⟨w'.heap.size, 0, none⟩) xa.length xa.length) o) ∧ Hid (nv (xa.take k) + W32 ^ k * cc = nv (o.take k) + nv (xb.take k)) ∧ Ext w wr)
    (fun _ i _ => xa.length - (intOf i).toNat)
  case atStart => exact ⟨0, zeros xa.length, 0, rfl, Nat.zero_le _, len_zeros _, rfl, by omega, ⟨HO.out.mono hsz0, fit_zeros _ (by decide)⟩, by simp [Hid, val], hx0⟩
  case round =>
    obtain ⟨k, o, c, rfl, hk, hol, rfl, hc1, hO, hinv, hbel⟩ := hrel
    have hsz2 := hbel.size
    clear hext hsz hx hx0
    by_cases hlt : k < xa.length
    · obtain ⟨ba, oa, rfl, hc1⟩ := HCA.out k hlt
      have hc1' := Ext.cell hbel hc1
      have FA := HA.out.2.nth32 k
      have hs1 := hO.out.1.cellAt k (by omega)
      have hs2 := hO.out.1.free k
      clear hc1
      by_cases hlt2 : k < xb.length
      · obtain ⟨bb, ob, rfl, hc2⟩ := HCB.out k hlt2
        have hc2' := Ext.cell hbel hc2
        have FB := HB.out.2.nth32 k
        clear hc2
        by_cases hneg : (nth xa k : Int) - c - nth xb k < 0
        · have hlo : -4294967296 ≤ (nth xa k : Int) - c - nth xb k := by omega
          go_wp2
          go_roundw
          case rel =>
            exact ⟨k + 1, o.set k (nth xa k + 4294967296 - c - nth xb k), 1, rfl, by omega, by rw [len_set]; exact hol, rfl, by omega, OwnL.set hO.out k (by omega) (by unfold W32; omega), sub_step (by omega) hinv.out (by unfold W32; omega), hbel.setCell hsz0 _⟩
          case measure => simp [intOf] <;> omega
        · have hlo : 0 ≤ (nth xa k : Int) - c - nth xb k := by omega
          go_wp2
          go_roundw
          case rel =>
            exact ⟨k + 1, o.set k (nth xa k - c - nth xb k), 0, rfl, by omega, by rw [len_set]; exact hol, rfl, by omega, OwnL.set hO.out k (by omega) (by unfold W32; omega), sub_step (by omega) hinv.out (by unfold W32; omega), hbel.setCell hsz0 _⟩
          case measure => simp [intOf] <;> omega
      · have hy0 := Lib.hid (nth_ge xb k (by omega))
        by_cases hneg : (nth xa k : Int) - c < 0
        · have hlo : -4294967296 ≤ (nth xa k : Int) - c := by omega
          go_wp2
          go_roundw
          case rel =>
            exact ⟨k + 1, o.set k (nth xa k + 4294967296 - c), 1, rfl, by omega, by rw [len_set]; exact hol, rfl, by omega, OwnL.set hO.out k (by omega) (by unfold W32; omega), sub_step (by omega) hinv.out (by rw [hy0.out]; unfold W32; omega), hbel.setCell hsz0 _⟩
          case measure => simp [intOf] <;> omega
        · have hlo : 0 ≤ (nth xa k : Int) - c := by omega
          go_wp2
          go_roundw
          case rel =>
            exact ⟨k + 1, o.set k (nth xa k - c), 0, rfl, by omega, by rw [len_set]; exact hol, rfl, by omega, OwnL.set hO.out k (by omega) (by unfold W32; omega), sub_step (by omega) hinv.out (by rw [hy0.out]; unfold W32; omega), hbel.setCell hsz0 _⟩
          case measure => simp [intOf] <;> omega
    · obtain rfl : k = xa.length := by omega
      have E := Lib.hid (sub_end hO.out.2 HA.out.2 hol HLE.out hinv.out)
      go_wp2_with (go_at_call 7; refine (norm_any hO.out.rd (by omega)).mono ?_; rintro e w3 ⟨v3, rfl, hb4, ho3⟩)
      have HO3 := Lib.hid ho3
      clear ho3
      go_wp2
      have ho4 := HO3.out
      rw [E.out] at ho4
      exact hR.out _ _ (Gives.mk (Ext.trans hbel hb4) ⟨_, rfl, ho4.mono hbel.size⟩)
end Go.Proofs.YtndjddeiilggpaaDoor
