/- digits.Text -/
import Derived.Test.YtgajpmcjjefghaaGreatDoorPTrim
import Derived.Test.YtgajpmcjjefghaaGreatDoorNatAll
import Derived.Test.YtgajpmcjjefghaaGreatDoorRatPlain
namespace Go.Proofs.YtgajpmcjjefghaaGreatDoor
open Go.RowKit Go.Att

theorem et8t : ElemT Tryz.prog 94 5 (.int .u8 0) 1 1 := ElemT.mk' Tryz.underlying94 (by kernel_rfl) rfl (by decide)
def slLen : Value → Nat
  | .slice _ n _ => n
  | _ => 0
theorem owns_past {w w' : World} {B : Nat} {e : TypeId} {size : Nat} {v v' : Value} {n : Nat} {xs : List Value} (o : w.ownsRow B e size v n xs) (h : ∀ k, v'.ownBlock = some k → k < B) (hg : w.grownBy w' v'.ownBlock) : w'.ownsRow B e size v n xs := by
  rcases o with ⟨h1, h2 | ⟨g, cap, cur, hv, hgB, hh, r⟩⟩
  · exact ⟨h1, .inl h2⟩
  · refine ⟨h1, .inr ⟨g, cap, cur, hv, hgB, ?_, r⟩⟩
    rw [hg.block g (Array.getElem?_eq_some_iff.1 hh).1 (fun h3 => by have := h g h3.symm; omega)]
    exact hh
theorem divword_to {w : World} {va : Value} {xs : List Nat} {z : Int} (d : Nat) (hz : z = (d : Int)) (hd0 : 1 ≤ d) (hd : d ≤ 4294967295) (ha : RdL w va xs) (hl : xs.length ≤ 1099511627776) :
    Calls Tryz.prog 55 #[va, .int .u32 z] w (Gives w fun v' w' => ∃ q, v' = .tuple #[q, .int .u32 ((nv xs % d : Nat) : Int), .bool true] ∧ OwnL 57 w.heap.size w' q (limbs (nv xs / d))) := by
  subst hz
  exact divword_any d hd0 hd ha hl
theorem be_at (k n j : Nat) (h : j < k) : (be k n)[j]? = some (n / 10 ^ (k - 1 - j) % 10 + 48) := by
  induction k generalizing n with
  | zero => omega
  | succ k ih =>
    rw [be]
    by_cases hj : j < k
    · rw [List.getElem?_append_left (by rw [be_len]; exact hj), ih _ hj, Nat.div_div_eq_div_mul, show k + 1 - 1 - j = (k - 1 - j) + 1 by omega, Nat.pow_succ, Nat.mul_comm]
    · obtain rfl : j = k := by omega
      rw [List.getElem?_append_right (by rw [be_len]; omega), be_len]
      simp
theorem be_take (n j : Nat) (h : j < 9) : (be 9 n).take (j + 1) = (be 9 n).take j ++ [n / (100000000 / 10 ^ j) % 10 + 48] := by
  rw [List.take_add_one, be_at 9 n j h]
  have e : (100000000 : Nat) / 10 ^ j = 10 ^ (9 - 1 - j) := by
    rw [show (100000000 : Nat) = 10 ^ 8 from rfl, Nat.pow_div (by omega) (by decide)]
  rw [e]
  rfl
theorem groups_drop {gs : List Nat} {k : Nat} (h : k < gs.length) : beGroups (gs.drop k) = beGroups (gs.drop (k + 1)) ++ be 9 (nth gs k) := by
  rw [List.drop_eq_getElem_cons h, beGroups, nth_lt _ _ h]
theorem be_fit (k n : Nat) : Fit 256 (be k n) := fun x hx => by have := be_digs k n x hx; omega
theorem groups_fit (gs : List Nat) : Fit 256 (beGroups gs) := by
  induction gs with
  | nil => exact Fit.nil _
  | cons g gs ih => exact ih.app (be_fit 9 g)
theorem groups_len (gs : List Nat) : (beGroups gs).length = 9 * gs.length := by
  induction gs with
  | nil => rfl
  | cons g gs ih => rw [beGroups, List.length_append, ih, be_len, List.length_cons]; omega
theorem pow9 : ∀ j, j < 9 → 1 ≤ 100000000 / 10 ^ j ∧ 100000000 / 10 ^ j ≤ 100000000 := by decide

set_option maxHeartbeats 1000000 in
theorem text_any {w : World} {v : Value} {xs : List Nat} (hv : RdL w v xs) (hl : xs.length ≤ 1000000) :
    Calls Tryz.prog 65 #[v] w (Gives w fun v' _ => v' = .string (strOf (dtext (nv xs)))) := by
  refine via fun R hR => ?_
  have HV := Lib.hid hv
  have hll := limbs_len_le hv.2
  clear hv
  go_enter Tryz.func65, Tryz.ntmps65
  go_wp2_with fail
  refine (norm_any HV.out (by omega)).mono ?_
  rintro e w1 ⟨v1, rfl, b1, o1⟩
  generalize nv xs = n at *
  have O1 := Lib.hid o1
  obtain ⟨a1, c1, rfl, -, -, -, -⟩ := o1.rd.1.shape
  clear o1
  by_cases hn : n = 0
  · subst hn
    have e0 : (((limbs 0).length : Int) == 0) = true := beqT (by rw [limbs_zero]; rfl)
    go_wp2_with fail
    exact hR.out _ _ (Gives.mk b1 (by rw [dtext_small (by decide)]; unfold strOf; rfl))
  · have e0 : (((limbs n).length : Int) == 0) = false := beqF (by have := limbs_len_pos.2 (Nat.pos_of_ne_zero hn); omega)
    have HNE := Lib.hid hn
    have hdl : (digs 1000000000 n).length ≤ 2 * (limbs n).length := (digs_len _ (by decide) n _).2 (by
      have h1 := (digs_len W32 (by decide) n _).1 (Nat.le_refl (limbs n).length)
      rw [Nat.pow_mul]
      exact Nat.lt_of_lt_of_le h1 (Nat.pow_le_pow_left (by decide) _))
    have hs1 := b1.size
    clear hn
    go_wp2_with fail
    go_loopw [0, 3] (fun a g wr => ∃ (m : Nat) (gs : List Nat), Hid (OwnL 57 w.heap.size wr a (limbs m)) ∧ Hid (OwnL 57 w.heap.size wr g gs) ∧ Ext w wr ∧ Hid (digs 1000000000 n = gs ++ digs 1000000000 m) ∧ (limbs m).length ≤ 1000000) (fun _ g _ => (digs 1000000000 n).length - slLen g)
    case atStart => exact ⟨n, [], O1.out.mono (by omega), ⟨⟨by simp [ints], .inl ⟨rfl, rfl⟩⟩, Fit.nil _⟩, b1, rfl, by omega⟩
    case round =>
      obtain ⟨m, gs, hA, hG, hbel, hD, hml⟩ := hrel
      obtain ⟨aa, ca, rfl, -, -, -, -⟩ := hA.out.rd.1.shape
      have hsz := hbel.size
      by_cases hm : m = 0
      · subst hm
        have e1 : decide (0 < (limbs 0).length) = false := decide_eq_false (by rw [limbs_zero]; simp)
        have HGS : Hid (digs 1000000000 n = gs) := by
          show _ = _
          have := hD.out
          rw [digs_zero, List.append_nil] at this
          exact this
        obtain ⟨ag, cg, rfl, hlg, hmg, -, hcg⟩ := hG.out.rd.1.shape
        have HCG := Lib.hid hcg
        have hgl : gs.length ≤ 2000000 := by rw [← HGS.out]; omega
        have hg0 : 0 < gs.length := by
          have h1 := HNE.out
          rw [← HGS.out]
          exact Nat.pos_of_ne_zero fun h2 => h1 ((digs_nil _ (by decide) n).1 h2)
        clear hcg hD hA
        generalize ag = ag0 at *
        have h9 : (9 : Int) = ((9 : Nat) : Int) := rfl
        go_wp2_with fail
        obtain ⟨w5, rfl⟩ : ∃ w5 : World, w5 = wr := ⟨_, rfl⟩
        go_loopw [7, 8] (fun b i wr => ∃ (k : Nat) (bs : List Nat), i = .int .i64 ((k : Int) - 1) ∧ k ≤ gs.length ∧ Hid (OwnI .u8 5 w5.heap.size wr b bs) ∧ Ext w5 wr ∧ Hid (bs = beGroups (gs.drop k))) (fun _ i _ => (intOf i + 1).toNat)
        case atStart => exact ⟨gs.length, [], by first | rfl | go_num, Nat.le_refl _, OwnI.nil _ _ _ _, Ext.refl _, by show _ = _; rw [List.drop_length]; rfl⟩
        case round =>
          obtain ⟨k, bs, rfl, hk, hB, hx5, hbs⟩ := hrel
          have hsz5 := hx5.size
          by_cases hk0 : k = 0
          · subst hk0
            have hcv := conv_bytes Tryz.underlying94 Tryz.underlying5 Tryz.underlying9 (w := wr) hB.out.rd (by rw [hbs.out]; exact groups_fit _)
            have HTX : Hid (trim0 bs = dtext n) := by show _ = _; rw [hbs.out, List.drop_zero, ← HGS.out]; exact trim_groups HNE.out
            have hfit : Hid (Fit 256 bs) := by show Fit 256 bs; rw [hbs.out]; exact groups_fit _
            obtain ⟨ab, cb, rfl, -, -, -, -⟩ := hB.out.rd.shape
            go_wp2_with fail
            refine (trimleft_any hfit.out).mono ?_
            rintro e w6 ⟨_, rfl, b6, rfl⟩
            go_wp2_with fail
            exact hR.out _ _ (Gives.mk (Ext.trans hbel (Ext.trans hx5 b6)) (congrArg (fun l => Value.string (strOf l)) HTX.out))
          · obtain ⟨j, rfl⟩ : ∃ j, k = j + 1 := ⟨k - 1, by omega⟩
            obtain ⟨bg, og, rfl, hcell⟩ := HCG.out j (by omega)
            have hbl : Hid (bs.length = 9 * (gs.length - (j + 1))) := by show _ = _; rw [hbs.out, groups_len, List.length_drop]
            have hgj := hG.out.2.nth32 j
            have hjz : ((j + 1 : Nat) : Int) - 1 = (j : Int) := by omega
            have HCELL := Lib.hid hcell
            clear hcell
            rw [hjz]
            clear hjz
            go_wp2_with fail
            obtain ⟨w6, rfl⟩ : ∃ w6 : World, w6 = wr := ⟨_, rfl⟩
            go_loopw [7, 9] (fun b p wr => ∃ (i : Nat) (cs : List Nat), p = .int .u32 ((100000000 / 10 ^ i : Nat) : Int) ∧ i ≤ 9 ∧ Hid (OwnI .u8 5 w5.heap.size wr b cs) ∧ Ext w5 wr ∧ Hid (cs = beGroups (gs.drop (j + 1)) ++ (be 9 (nth gs j)).take i)) (fun _ p _ => (intOf p).toNat)
            case atStart => exact ⟨0, bs, rfl, by omega, hB, hx5, by show _ = _; rw [hbs.out]; simp⟩
            case round =>
              obtain ⟨i, cs, rfl, hi, hC, hx6, hcs⟩ := hrel
              have hsz6 := hx6.size
              by_cases hi9 : i < 9
              · obtain ⟨hp1, hp2⟩ := pow9 i hi9
                have hnx : Hid (100000000 / 10 ^ (i + 1) = 100000000 / 10 ^ i / 10) := by show _ = _; rw [Nat.pow_succ, Nat.div_div_eq_div_mul]
                have hbt := Lib.hid (be_take (nth gs j) i hi9)
                generalize 100000000 / 10 ^ i = p at *
                have hc2 := Ext.cell hx6 HCELL.out
                have hcl : cs.length ≤ 18000010 := by
                  have h1 := hcs.out
                  rw [h1, List.length_append, groups_len, List.length_drop, List.length_take, be_len]
                  omega
                have hq := Nat.div_le_self (nth gs j) p
                have hu0 : (0 : Int) ≤ (nth gs j : Int) / (p : Int) := Int.ediv_nonneg (by omega) (by omega)
                have hp0 : ((p : Int) == 0) = false := beqF (by omega)
                have hp3 : ¬ (p : Int) = 0 := by omega
                have hp4 : decide (0 < (p : Int)) = true := decide_eq_true (by omega)
                go_wp2_with (at_builtin; refine append_rd et8t rfl _ _ rfl w5.heap.size rfl (Ext.owns (Ext.alloc _ _) hC.out) rfl (RdV.lit _ _ _ _ 1 rfl (by unfold maxLen; omega)) (by intro u hu; simp at hu; subst hu; rfl) (by omega) (by unfold maxLen; omega) (by simp; omega) ?_)
                intro v7 w7 o7 b7 _
                have O7 : Hid (OwnI .u8 5 w5.heap.size w7 v7 (cs ++ [nth gs j / p % 10 + 48])) := OwnI.snoc o7 (by omega) (by omega)
                clear o7
                go_wp2_with fail
                go_roundw
                case rel => exact ⟨i + 1, _, by rw [hnx.out]; rfl, by omega, O7.out, Below.trans (Below.alloc hx6 hsz6 _) b7, by show _ = _; rw [hcs.out, hbt.out, List.append_assoc]⟩
                case measure => simp [intOf] <;> omega
              · obtain rfl : i = 9 := by omega
                go_wp2_with fail
                go_roundw
                case rel => exact ⟨j, cs, by go_num, by omega, hC.out, hx6, by show _ = _; rw [hcs.out, List.take_of_length_le (by rw [be_len]; omega)]; exact (groups_drop (by omega)).symm⟩
                case measure => simp [intOf] <;> omega
      · have hmp := limbs_len_pos.2 (Nat.pos_of_ne_zero hm)
        have e1 : decide (0 < (limbs m).length) = true := decide_eq_true (by omega)
        have hnm : nv (limbs m) = m := nv_limbs m
        have HDM : Hid (digs 1000000000 m = m % 1000000000 :: digs 1000000000 (m / 1000000000)) := digs_pos _ (by decide) m hm
        go_wp2_with fail
        refine (divword_to 1000000000 rfl (by decide) (by decide) hA.out.rd (by omega)).mono ?_
        rintro e w2 ⟨_, rfl, b2, q, rfl, oq⟩
        rw [hnm] at oq ⊢
        have OQ := Lib.hid oq
        have hgl2 : Hid (gs.length + 1 ≤ (digs 1000000000 n).length) := by show _ ≤ _; rw [hD.out, HDM.out]; simp
        have hgl3 : gs.length ≤ 2000000 := by have := hgl2.out; omega
        obtain ⟨ag, cg, rfl, -, -, -, -⟩ := hG.out.rd.1.shape
        have hs2 := Below.size b2
        have hrm : m % 1000000000 < 1000000000 := Nat.mod_lt _ (by decide)
        have hlm : (limbs (m / 1000000000)).length ≤ 1000000 := Nat.le_trans (limbs_mono (Nat.div_le_self _ _)) hml
        have hGl : ∀ k, (Value.slice ag gs.length cg).ownBlock = some k → k < wr.heap.size := fun k h => (World.ownsRow.lt hG.out.1 k h).2
        have HGL := Lib.hid hGl
        clear oq hGl hnm
        go_wp2_with (at_builtin; refine append_rd et32 rfl _ _ rfl w.heap.size rfl (Ext.owns (Ext.trans b2 (Ext.alloc _ _)) hG.out.1) rfl (RdV.lit _ _ _ _ 1 rfl (by unfold maxLen; omega)) (by intro u hu; simp at hu; subst hu; rfl) (by omega) (by unfold maxLen; omega) (by simp; omega) ?_)
        intro v7 w7 o7 b7 hgr
        have O7 : Hid (OwnL 57 w.heap.size w7 v7 (gs ++ [m % 1000000000])) := OwnL.snoc o7 (by omega) (by omega) hG.out.2 (by unfold W32; omega)
        have OQ7 : Hid (OwnL 57 w.heap.size w7 q (limbs (m / 1000000000))) := OwnL.mono ⟨owns_past (Ext.owns (Ext.alloc _ _) OQ.out.1) HGL.out hgr, OQ.out.2⟩ (by omega)
        obtain ⟨a7, c7, rfl, -, -, -, -⟩ := O7.out.rd.1.shape
        clear o7 hgr
        go_wp2_with fail
        go_roundw
        case rel => exact ⟨m / 1000000000, _, OQ7.out, O7.out, Below.trans (Below.alloc (Ext.trans hbel b2) (by omega) _) b7, by show _ = _; rw [hD.out, HDM.out, List.append_assoc]; rfl, hlm⟩
        case measure => have := hgl2.out; simp [slLen] <;> omega
end Go.Proofs.YtgajpmcjjefghaaGreatDoor
