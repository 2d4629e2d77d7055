/- digits.grow -/
import Derived.Test.YtgajpmcjjefghaaGreatDoorNumAll
import Derived.Test.YtgajpmcjjefghaaGreatDoorLimbAll
namespace Go.Proofs.YtgajpmcjjefghaaGreatDoor
open Go.RowKit Go.Att

theorem grow_step {ys xs : List Nat} {k b more cc t : Nat} (hk : k < ys.length) (hinv : val W32 (ys.take k) + W32 ^ k * cc = val W32 (xs.take k) * b + more) (ht : t = cc + nth xs k * b) :
    val W32 ((ys.set k (t % W32)).take (k + 1)) + W32 ^ (k + 1) * (t / W32) = val W32 (xs.take (k + 1)) * b + more := by
  rw [val_take_succ, val_take_succ, List.take_set, List.set_eq_of_length_le (by simp; omega), nth_set _ _ _ hk, Nat.pow_succ, Nat.add_mul, Nat.mul_assoc (W32 ^ k) W32, Nat.add_assoc, ← Nat.mul_add, Nat.mod_add_div, ht, Nat.mul_add, Nat.mul_assoc (W32 ^ k) (nth xs k)]
  omega

theorem grow_any {w : World} {v : Value} {xs : List Nat} {B b more : Nat} (hO : OwnL 57 B w v xs) (hB : B ≤ w.heap.size) (hb : b ≤ 4294967295) (hm : more ≤ 4294967295) (hl : xs.length ≤ 1000000) :
    Calls Tryz.prog 64 #[v, .int .u32 b, .int .u32 more] w fun e w' => ∃ v' ys, e = .returned v' ∧ OwnL 57 B w' v' ys ∧ Below B w w' ∧ nv ys = nv xs * b + more ∧ ys.length ≤ xs.length + 1 ∧ (ys.length = xs.length ∨ W32 ^ (ys.length - 1) ≤ nv ys) := by
  refine via fun R hR => ?_
  have HO := Lib.hid hO
  obtain ⟨a, cap, rfl, hlc, hmc, hnone, -⟩ := hO.rd.1.shape
  have hg : ∀ i, i < xs.length → ∃ g, a = some ⟨g, 0, none⟩ := fun i hi => by
    rcases hO.1.2 with ⟨h1, h2⟩ | ⟨g, c, cur, h1, _⟩
    · omega
    · simp only [Value.slice.injEq] at h1; exact ⟨g, h1.1⟩
  have HG := Lib.hid hg
  clear hO hnone hg
  unfold maxLen at hmc
  go_enter Tryz.func64, Tryz.ntmps64
  go_wp2_with fail
  go_loopw [7, 14] (fun c i wr => ∃ (k : Nat) (ys : List Nat) (cc : Nat), i = .int .i64 k ∧ k ≤ xs.length ∧ ys.length = xs.length ∧ c = .int .u64 cc ∧ cc ≤ 4294967295 ∧ Hid (OwnL 57 B wr (.slice a xs.length cap) ys) ∧ Below B w wr ∧ Hid (ys.drop k = xs.drop k) ∧ Hid (val W32 (ys.take k) + W32 ^ k * cc = val W32 (xs.take k) * b + more)) (fun _ i _ => xs.length - (intOf i).toNat)
  case atStart => exact ⟨0, xs, more, rfl, Nat.zero_le _, rfl, rfl, hm, HO.out, Below.refl _ _, rfl, by simp [Hid, val]⟩
  case round =>
    obtain ⟨k, ys, cc, rfl, hk, hyl, rfl, hcc, hO, hbel, hd, hinv⟩ := hrel
    have HYL := Lib.hid hyl
    have hyl2 : xs.length ≤ ys.length := by omega
    clear hyl
    by_cases hlt : k < xs.length
    · obtain ⟨g, rfl⟩ := HG.out k hlt
      have hs1 := hO.out.1.cellAt k (by omega)
      have hf1 := hO.out.1.free k
      have FA := hO.out.2.nth32 k
      have hnd : Hid (nth ys k = nth xs k) := by
        show _ = _
        have h := congrArg (fun l => nth l 0) hd.out
        simp only [nth_drop, Nat.add_zero] at h
        exact h
      have hd1 : Hid (ys.drop (k + 1) = xs.drop (k + 1)) := by
        show _ = _
        have h := congrArg (fun l => List.drop 1 l) hd.out
        simpa [List.drop_drop] using h
      have hm2 : nth ys k * b ≤ 4294967295 * 4294967295 := Nat.mul_le_mul FA hb
      have hpi1 : (0 : Int) ≤ (nth ys k : Int) * (b : Int) := Int.mul_nonneg (by omega) (by omega)
      have hpi2 : (nth ys k : Int) * (b : Int) ≤ 18446744065119617025 := by
        have h2 : ((nth ys k * b : Nat) : Int) ≤ 18446744065119617025 := by omega
        rwa [Int.natCast_mul] at h2
      have hpi3 : (cc : Int) + (nth ys k : Int) * (b : Int) ≤ 18446744073709551615 := by omega
      go_wp2
      go_roundw
      case rel =>
        refine ⟨k + 1, ys.set k ((cc + nth ys k * b) % W32), (cc + nth ys k * b) / W32, by go_num, by omega, by rw [len_set]; exact HYL.out, by unfold W32; go_num, by unfold W32; omega, OwnL.set hO.out k (by unfold W32; omega) (Nat.mod_lt _ (by decide)), Below.setCell hbel (World.ownsRow.lt hO.out.1 g rfl).1 _, ?_, ?_⟩
        · show _ = _; rw [List.drop_set, if_pos (by omega)]; exact hd1.out
        · exact grow_step (by omega) hinv.out (by rw [hnd.out])
      case measure => simp [intOf] <;> omega
    · have hk2 : k = xs.length := by omega
      subst hk2
      have E : Hid (nv ys + W32 ^ xs.length * cc = nv xs * b + more) := by
        show _ = _
        have h := hinv.out
        rw [List.take_of_length_le (by have := HYL.out; omega), List.take_of_length_le (Nat.le_refl _)] at h
        exact h
      have hxl : ys.length ≤ xs.length := by have := HYL.out; omega
      by_cases hc : 0 < cc
      · have hsz := hbel.size
        have hcv : ((cc : Int) % 4294967296) = cc := by omega
        go_wp2_with (at_builtin; refine append_rd et32 rfl _ _ rfl B rfl (Ext.owns (Ext.alloc _ _) hO.out.1) rfl (RdV.lit _ _ _ _ 1 rfl (by unfold maxLen; omega)) (by intro u hu; simp at hu; subst hu; rfl) (by omega) (by unfold maxLen; omega) (by simp; omega) ?_)
        intro v2 w2 o2 b2 _
        have O2 : Hid (OwnL 57 B w2 v2 (ys ++ [cc])) := ⟨OwnI.app o2 (by simp) rfl, hO.out.2.app (Fit.one (by unfold W32; omega))⟩
        have X2 : Below B w w2 := Below.trans (Below.alloc hbel (by omega) _) b2
        clear o2
        go_wp2_with fail
        refine hR.out _ _ ⟨_, _, rfl, O2.out, X2, ?_, by simp; omega, ?_⟩
        rotate_left
        · right
          rw [List.length_append, List.length_singleton, Nat.add_sub_cancel]
          unfold nv
          rw [val_app]
          have h3 : W32 ^ ys.length * 1 ≤ W32 ^ ys.length * cc := Nat.mul_le_mul_left _ hc
          simp [val]
          omega
        rw [← E.out]
        have h2 := HYL.out
        unfold nv
        rw [val_app, h2]
        simp [val]
      · have hc0 : cc = 0 := by omega
        subst hc0
        go_wp2_with fail
        refine hR.out _ _ ⟨_, _, rfl, hO.out, hbel, by rw [← E.out]; simp, by omega, .inl HYL.out⟩
theorem grow_to {w : World} {v : Value} {xs : List Nat} {B b more : Nat} {z1 z2 : Int} (h1 : z1 = (b : Int)) (h2 : z2 = (more : Int)) (hO : OwnL 57 B w v xs) (hB : B ≤ w.heap.size) (hb : b ≤ 4294967295) (hm : more ≤ 4294967295) (hl : xs.length ≤ 1000000) :
    Calls Tryz.prog 64 #[v, .int .u32 z1, .int .u32 z2] w fun e w' => ∃ v' ys, e = .returned v' ∧ OwnL 57 B w' v' ys ∧ Below B w w' ∧ nv ys = nv xs * b + more ∧ ys.length ≤ xs.length + 1 ∧ (ys.length = xs.length ∨ W32 ^ (ys.length - 1) ≤ nv ys) := by
  subst h1 h2
  exact grow_any hO hB hb hm hl
end Go.Proofs.YtgajpmcjjefghaaGreatDoor
