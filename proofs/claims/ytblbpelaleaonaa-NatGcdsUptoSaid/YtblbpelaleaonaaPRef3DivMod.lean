/- attestref03.DivMod, Gcd -/
import Derived.Test.YtblbpelaleaonaaPRefSub
import Derived.Test.YtblbpelaleaonaaPRefCmp
import Derived.Test.YtblbpelaleaonaaNum5
import Derived.Test.YtblbpelaleaonaaNumN
import Derived.Deep.LoopGhost
namespace Go.Proofs.Ytblbpelaleaonaa
open Go.RowKit Go.Att

theorem OwnBset {e : TypeId} {B g n cap : Nat} {w : World} {o : List Bool} (h : OwnB e B w (.slice (some ⟨g, 0, none⟩) n cap) o) (i : Nat) (d : Bool) : OwnB e B (w.setCell ⟨g, i, none⟩ (.bool d)) (.slice (some ⟨g, 0, none⟩) n cap) (o.set i d) := by
  obtain ⟨_, _, h1, _⟩ := h.rd.shape
  simp only [Value.slice.injEq] at h1
  obtain ⟨_, rfl, _⟩ := h1
  have := (World.ownsRow.stored h i (.bool d)).1
  unfold OwnB
  rw [List.length_set]
  have e : bools (o.set i d) = (bools o).set i (.bool d) := by simp [bools, List.map_set]
  rw [e]
  exact this
theorem OwnBcell {e : TypeId} {B g n cap : Nat} {w : World} {o : List Bool} (h : OwnB e B w (.slice (some ⟨g, 0, none⟩) n cap) o) (i : Nat) (hi : i < o.length) : w.cell? ⟨g, i, none⟩ = some (.bool (nthB o i)) := by
  have := h.rd.cell i hi
  rwa [Nat.zero_add] at this
theorem OwnBfree {e : TypeId} {B g n cap : Nat} {w : World} {o : List Bool} (h : OwnB e B w (.slice (some ⟨g, 0, none⟩) n cap) o) (i : Nat) : w.frozen? ⟨g, i, none⟩ = false := by
  obtain ⟨_, _, h1, _⟩ := h.rd.shape
  simp only [Value.slice.injEq] at h1
  obtain ⟨_, rfl, _⟩ := h1
  exact World.ownsRow.frozenAt h i
theorem bdrop_set (q : List Bool) (j : Nat) (d : Bool) (h : j < q.length) : bval ((q.set j d).drop j) = d.toNat + 2 * bval (q.drop (j + 1)) := by
  have e : (q.set j d).drop j = d :: q.drop (j + 1) := by
    rw [List.drop_eq_getElem_cons (by simpa using h), List.getElem_set_self, List.drop_set]
    simp
  rw [e]
  rfl
theorem bdrop_same (q : List Bool) (j : Nat) (h : j < q.length) (h0 : nthB q j = false) : bval (q.drop j) = 2 * bval (q.drop (j + 1)) := by
  rw [bval_drop q j h, h0]; simp
theorem bdiv_step {a q : List Bool} {j B R d : Nat} {bit : Bool} (hj : j < a.length) (hinv : bval (a.drop (j + 1)) = B * bval (q.drop (j + 1)) + R) {R' : Nat} (hb : nthB a j = bit) (hR : bit.toNat + 2 * R = B * d + R') :
    bval (a.drop j) = B * (d + 2 * bval (q.drop (j + 1))) + R' := by
  rw [bval_drop a j hj, hinv, hb, Nat.mul_add, Nat.mul_add]
  have : 2 * (B * bval (q.drop (j + 1))) = B * (2 * bval (q.drop (j + 1))) := Nat.mul_left_comm _ _ _
  omega
theorem bval_cons (b : Bool) (l : List Bool) : bval (b :: l) = b.toNat + 2 * bval l := rfl
theorem false_drop {q : List Bool} {m : Nat} (h : q.take m = nays m) (j : Nat) (hj : j < m) : nthB q j = false := by
  have h1 := nthB_take q m j hj
  rw [← h1, h]
  unfold nthB nays
  simp [List.getD, hj]
theorem take_less {q : List Bool} {j : Nat} (h : q.take (j + 1) = nays (j + 1)) : q.take j = nays j := by
  have := congrArg (List.take j) h
  rw [List.take_take, Nat.min_eq_left (Nat.le_succ j)] at this
  rw [this]
  unfold nays
  rw [List.take_replicate, Nat.min_eq_left (Nat.le_succ j)]

set_option maxHeartbeats 2000000 in
theorem r3DivMod_any {w : World} {va vb : Value} {xa : List Bool} {B : Nat} (ha : RdB w va xa) (hb : RdB w vb (bitsOf B)) (hB : B ≠ 0) (hla0 : xa.length ≤ 274877906944) (hlb0 : (bitsOf B).length ≤ 274877906944) :
    Calls Try.prog 18 #[va, vb] w (Gives w fun v' w' => ∃ q r, v' = .tuple #[q, r] ∧ OwnB 4 w.heap.size w' q (bitsOf (bval xa / B)) ∧ OwnB 4 w.heap.size w' r (bitsOf (bval xa % B))) := by
  refine via fun R hR => ?_
  have HB := Lib.hid hb
  have HB0 := Lib.hid hB
  obtain ⟨a, ca, rfl, hca1, hma, _, hca⟩ := ha.shape
  have HCA := Lib.hid hca
  clear hca hb ha hB
  unfold maxLen at hma
  go_enter Try.func18, Try.ntmps18
  go_wp2_with (at_make; refine make_bools etB rfl _ _ rfl _ _ xa.length rfl rfl (by omega) (by unfold maxLen; omega) ?_)
  intro w1 o1 b1
  have O1 := Lib.hid o1
  have s1 := b1.size
  clear o1
  go_wp2_with fail
  go_loopw [7, 8] (fun r i wr => ∃ (m R : Nat) (o : List Bool), i = .int .i64 ((m : Int) - 1) ∧ m ≤ xa.length ∧ o.length = xa.length ∧ R < B ∧ Hid (OwnB 4 w.heap.size wr r (bitsOf R)) ∧ Hid (OwnB 4 w.heap.size wr (.slice (some ⟨w.heap.size, 0, none⟩) xa.length xa.length) o) ∧ Hid (o.take m = nays m) ∧ Hid (bval (xa.drop m) = B * bval (o.drop m) + R) ∧ Ext w wr) (fun _ i _ => (intOf i + 1).toNat)
  case atStart =>
    have hB1 := HB0.out
    refine ⟨xa.length, 0, nays xa.length, rfl, Nat.le_refl _, len_nays _, by omega, ?_, OwnB.ext O1.out (Ext.alloc _ _), ?_, ?_, Ext.trans b1 (Ext.alloc _ _)⟩
    · rw [bitsOf_zero]; exact World.ownsRow_lit w1 #[] 0 (by omega) (Nat.zero_le _) rfl
    · show _ = _; rw [List.take_of_length_le (by rw [len_nays]; exact Nat.le_refl _)]
    · show _ = _; rw [List.drop_of_length_le (Nat.le_refl _), List.drop_of_length_le (by rw [len_nays]; exact Nat.le_refl _), bval_nil, Nat.mul_zero]
  case round =>
    obtain ⟨m, R0, o, rfl, hm, hol, hR0, hr, hO, htk, hinv, hbel⟩ := hrel
    have hs := hbel.size
    have HOL := Lib.hid hol
    have hol1 : o.length ≤ xa.length := Nat.le_of_eq hol
    have hol2 : xa.length ≤ o.length := Nat.le_of_eq hol.symm
    have hrl : (bitsOf R0).length ≤ 274877906944 := Nat.le_trans (blen_mono (Nat.le_of_lt hR0)) hlb0
    clear hol b1
    by_cases hlt : 0 < m
    · obtain ⟨j, rfl⟩ : ∃ j, m = j + 1 := ⟨m - 1, by omega⟩
      obtain ⟨ba, oa, rfl, hc⟩ := HCA.out j (by omega)
      have hc2 := Ext.cell hbel hc
      clear hc
      obtain ⟨bit, hbit⟩ : ∃ bit, nthB xa j = bit := ⟨_, rfl⟩
      rw [hbit] at hc2
      have HBIT := Lib.hid hbit
      clear hbit
      go_wp2_with (at_builtin; refine append_rd etB rfl _ _ rfl wr.heap.size rfl (World.ownsRow_lit wr #[.bool bit] 1 (Nat.le_refl _) (by unfold maxLen; omega) rfl) rfl (RdV.ext hr.out.rd (Ext.alloc _ _)) (bools_one _) (by omega) (by unfold maxLen; omega) (by simp) ?_)
      intro v2 w2 o2 b2 _
      have O2 : Hid (OwnB 4 wr.heap.size w2 v2 (bit :: bitsOf R0)) := by
        show OwnB _ _ _ _ _
        unfold OwnB
        have e : (bit :: bitsOf R0 : List Bool).length = 1 + (bitsOf R0).length := by simp; omega
        rw [e]
        exact o2
      have X2 : Ext wr w2 := Below.trans (Ext.alloc _ _) (Below.mono b2 (by simp))
      clear o2 b2
      go_wp2_with fail
      refine (CutOwn O2.out).mono ?_
      rintro e w3 ⟨v3, rfl, rfl, o3⟩
      rw [bval_cons, bval_bitsOf] at o3
      have O3 := Lib.hid o3
      clear o3
      go_wp2_with fail
      refine (rCmp_any (bit.toNat + 2 * R0) B O3.out.rd (HB.out.ext (Ext.trans hbel X2))).mono ?_
      rintro e w4 ⟨_, rfl, b4, rfl⟩
      have hbt : bit.toNat ≤ 1 := by cases bit <;> decide
      have hnb := false_drop htk.out j (by omega)
      have HNB := Lib.hid hnb
      have HT := Lib.hid (take_less htk.out)
      clear hnb
      by_cases hge : B ≤ bit.toNat + 2 * R0
      · have hcc : 0 ≤ cmpN (bit.toNat + 2 * R0) B := by
          rcases cmpN_cases (bit.toNat + 2 * R0) B with ⟨h, _⟩ | ⟨_, h⟩ | ⟨_, h⟩ <;> omega
        generalize cmpN (bit.toNat + 2 * R0) B = cc at *
        go_wp2_with fail
        refine (rSub_any (O3.out.rd.ext b4) (HB.out.ext (Ext.trans hbel (Ext.trans X2 b4))) (by rw [bval_bitsOf, bval_bitsOf]; exact hge) (by have h1 := blen_shl (n := 2) (show (bitsOf B).length ≤ 274877906944 from hlb0); have h2 := blen_mono (show bit.toNat + 2 * R0 ≤ B * 2 ^ 2 by omega); omega)).mono ?_
        rintro e w5 ⟨v5, rfl, b5, o5⟩
        have O5 := Lib.hid o5
        clear o5
        rw [bval_bitsOf, bval_bitsOf] at O5
        have X5 : Ext wr w5 := Ext.trans X2 (Ext.trans b4 b5)
        have hq1 := OwnBcell (OwnB.ext hO.out X5) j (by omega)
        have hq2 := OwnBfree (OwnB.ext hO.out X5) j
        have HR' : bit.toNat + 2 * R0 - B < B := by omega
        have hz4 := b4.size
        have hz2 := X2.size
        have hlt5 : w.heap.size < wr.heap.size := (World.ownsRow.lt hO.out _ rfl).2
        go_wp2_with fail
        go_roundw
        case rel =>
          refine ⟨j, bit.toNat + 2 * R0 - B, o.set j true, by go_num, by omega, by simp; exact HOL.out, HR', ?_, OwnBset (OwnB.ext hO.out X5) j true, ?_, ?_, Below.setCell (Ext.trans hbel X5) (Nat.le_refl _) _⟩
          · exact OwnB.mono (ownsRow_setCell_below O5.out (by show w.heap.size < w4.heap.size; omega) _) (by omega)
          · show _ = _; rw [List.take_set, List.set_eq_of_length_le (by simp; omega)]; exact HT.out
          · show _ = _; rw [bdrop_set _ _ _ (by omega)]; exact bdiv_step (by omega) hinv.out HBIT.out (by simp; omega)
        case measure => simp [intOf] <;> omega
      · have hcc : cmpN (bit.toNat + 2 * R0) B = -1 := cmpN_lt (by omega)
        rw [hcc]
        have HR' : bit.toNat + 2 * R0 < B := by omega
        have X4 : Ext wr w4 := Ext.trans X2 b4
        have hz2 := X2.size
        have O3' := Lib.hid (OwnB.mono (O3.out.ext b4) (show w.heap.size ≤ wr.heap.size by omega))
        clear O3 hcc
        go_wp2_with fail
        go_roundw
        case rel =>
          refine ⟨j, bit.toNat + 2 * R0, o, by go_num, by omega, HOL.out, HR', O3'.out, OwnB.ext hO.out X4, HT.out, ?_, Ext.trans hbel X4⟩
          show _ = _
          rw [bdrop_same _ _ (by omega) HNB.out]
          have h := bdiv_step (d := 0) (by omega) hinv.out HBIT.out (R' := bit.toNat + 2 * R0) (by simp)
          rw [Nat.zero_add] at h
          exact h
        case measure => simp [intOf] <;> omega
    · obtain rfl : m = 0 := by omega
      have h0 : bval xa = B * bval o + R0 := by have h := hinv.out; rwa [List.drop_zero, List.drop_zero] at h
      have hdm := div_mod_of h0 hR0
      have E1 := Lib.hid hdm.1
      have E2 := Lib.hid hdm.2
      clear hdm h0
      go_wp2_with fail
      refine (CutOwn hO.out).mono ?_
      rintro e w3 ⟨v3, rfl, rfl, o3⟩
      rw [E1.out] at o3
      have O3 := Lib.hid o3
      clear o3
      go_wp2_with fail
      exact hR.out _ _ (Gives.mk hbel ⟨_, _, rfl, O3.out, by rw [← E2.out]; exact hr.out⟩)
end Go.Proofs.Ytblbpelaleaonaa
