/- nat.take, nat.give: they write into a part of one's own row -/
import Derived.Test.YtblbpelaleaonaaNumN
import Derived.Test.YtblbpelaleaonaaLend
import Derived.Test.YtblbpelaleaonaaPLimbCut
namespace Go.Proofs.Ytblbpelaleaonaa
open Go.RowKit Go.Att

/-- what is read lies outside block g -/
theorem rd_out {w w' : World} {v : Value} {xs : List Nat} {g B C : Nat} (h : RdL w v xs) (x : Besides g (g + 1) w w') (hb : ∀ a l c, v = .slice (some a) l c → a.block ≠ g) (_hB : B ≤ C) : RdL w' v xs := by
  refine ⟨?_, h.2⟩
  obtain ⟨h0, a, cap, rfl, h1, h2, h3, h5⟩ := h.1
  refine ⟨h0, a, cap, rfl, h1, h2, h3, fun i hi => ?_⟩
  obtain ⟨b, off, ha, hc⟩ := h5 i hi
  refine ⟨b, off, ha, ?_⟩
  have hne : b ≠ g := hb ⟨b, off, none⟩ _ _ (by rw [ha])
  rw [← hc]
  exact World.cell?_of_block (w := w) (x.block b (by omega))

theorem take_any {w : World} {vv : Value} {o v : List Nat} {g N cap c j B : Nat} (gu : Nat) (hgu : gu ≤ 4294967295)
    (hO : OwnL 32 B w (.slice (some ⟨g, 0, none⟩) N cap) o) (hv : RdL w vv v) (hne : ∀ a l c, vv = .slice (some a) l c → a.block ≠ g) (hj : j + v.length + 1 ≤ o.length) (hc : v.length + 1 ≤ c) (hcm : c ≤ maxLen) :
    Calls Try.prog 39 #[.slice (some ⟨g, j, none⟩) (v.length + 1) c, vv, .int .u64 gu] w fun e w' => ∃ o' bo, e = .returned (.bool (decide (bo = 1))) ∧ bo ≤ 1 ∧ OwnL 32 B w' (.slice (some ⟨g, 0, none⟩) N cap) o' ∧ Besides g (g + 1) w w' ∧ o'.length = o.length ∧ o'.take j = o.take j ∧ o'.drop (j + v.length + 1) = o.drop (j + v.length + 1) ∧
      val W32 ((o.drop j).take (v.length + 1)) + W32 ^ (v.length + 1) * bo = val W32 ((o'.drop j).take (v.length + 1)) + gu * val W32 v := by
  refine via fun R hR => ?_
  have HV := Lib.hid hv
  have HO := Lib.hid hO
  have HNE := Lib.hid hne
  obtain ⟨a, ca, rfl, hla, hma, _, hca⟩ := hv.1.shape
  have HCA := Lib.hid hca
  clear hca hv hO hne
  unfold maxLen at hma hcm
  go_enter Try.func39, Try.ntmps39
  go_wp2_with fail
  go_loopw [7, 14] (fun c i wr => ∃ (k : Nat) (o' : List Nat) (cc : Nat), i = .int .i64 k ∧ k ≤ v.length ∧ o'.length = o.length ∧ c = .int .u64 cc ∧ cc ≤ gu ∧ Hid (OwnL 32 B wr (.slice (some ⟨g, 0, none⟩) N cap) o') ∧ Besides g (g + 1) w wr ∧ Hid (o'.take j = o.take j) ∧ Hid (o'.drop (j + k) = o.drop (j + k)) ∧ Hid (val W32 ((o.drop j).take k) + W32 ^ k * cc = val W32 ((o'.drop j).take k) + gu * val W32 (v.take k))) (fun _ i _ => v.length - (intOf i).toNat)
  case atStart => exact ⟨0, o, 0, rfl, Nat.zero_le _, rfl, rfl, Nat.zero_le _, HO.out, Besides.refl _ _ _, rfl, rfl, by simp [Hid, val]⟩
  case round =>
    obtain ⟨k, o', cc, rfl, hk, hol, rfl, hcc, hO, hout, ht, hd, hinv⟩ := hrel
    have HOL := Lib.hid hol
    have hol2 : o.length ≤ o'.length := by omega
    clear hol
    by_cases hlt : k < v.length
    · obtain ⟨ba, oa, rfl, hc1⟩ := HCA.out k hlt
      have hrd := rd_out HV.out hout HNE.out (Nat.le_refl 0)
      have hc2 := hrd.1.cell k hlt
      have FA := HV.out.2.nth32 k
      have hs1 := hO.out.1.cellAt (j + k) (by omega)
      have hf1 := hO.out.1.free (j + k)
      have FO := hO.out.2.nth32 (j + k)
      obtain ⟨hp1, hp2⟩ := take_owed FA hcc rfl
      have hm : gu * nth v k ≤ 4294967295 * 4294967295 := Nat.mul_le_mul hgu FA
      have hpi1 : (0 : Int) ≤ (gu : Int) * (nth v k : Int) := Int.mul_nonneg (by omega) (by omega)
      have hpi2 : (gu : Int) * (nth v k : Int) ≤ 18446744065119617025 := by
        have h2 : ((gu * nth v k : Nat) : Int) ≤ 18446744065119617025 := by omega
        rwa [Int.natCast_mul] at h2
      have hpi3 : (gu : Int) * (nth v k : Int) + (cc : Int) ≤ 18446744073709551615 := by omega
      have hnd : Hid (nth o' (j + k) = nth o (j + k)) := by
        show _ = _
        have h := congrArg (fun l => nth l 0) hd.out
        simp only [nth_drop, Nat.add_zero] at h
        exact h
      have hd1 : Hid (o'.drop (j + k + 1) = o.drop (j + k + 1)) := by
        show _ = _
        have h := congrArg (fun l => List.drop 1 l) hd.out
        simpa [List.drop_drop] using h
      have HP1 := Lib.hid hp1
      have HP2 := Lib.hid hp2
      clear hc1 hrd hp1 hp2
      by_cases hlt2 : (nth o' (j + k) : Int) < ((gu : Int) * (nth v k : Int) + (cc : Int)) % 4294967296
      · go_wp2
        go_roundw
        case rel =>
          have h1 := HP1.out
          have h2 := HP2.out
          have h3 := hnd.out
          unfold W32 at h1 h2
          refine ⟨k + 1, o'.set (j + k) (nth o' (j + k) + 4294967296 - (gu * nth v k + cc) % 4294967296), (gu * nth v k + cc) / 4294967296 + 1, by go_num, by omega, by rw [len_set]; exact HOL.out, by go_num, ?_, OwnL.set hO.out (j + k) (by omega) (by unfold W32; omega), Besides.set hout (Nat.le_refl _) (Nat.lt_succ_self _) _, ?_, ?_, ?_⟩
          · have : (gu * nth v k + cc) % 4294967296 ≠ 0 := by omega
            have : (gu * nth v k + cc) / 4294967296 ≠ gu := fun h => this (h2 h)
            omega
          · show _ = _; rw [List.take_set, List.set_eq_of_length_le (by simp; omega)]; exact ht.out
          · show _ = _; rw [List.drop_set, if_pos (by omega)]; exact hd1.out
          · exact take_step (by omega) hinv.out (by rw [← h3]; unfold W32; omega)
        case measure => simp [intOf] <;> omega
      · go_wp2
        go_roundw
        case rel =>
          have h1 := HP1.out
          have h3 := hnd.out
          unfold W32 at h1
          refine ⟨k + 1, o'.set (j + k) (nth o' (j + k) - (gu * nth v k + cc) % 4294967296), (gu * nth v k + cc) / 4294967296, by go_num, by omega, by rw [len_set]; exact HOL.out, by go_num, by omega, OwnL.set hO.out (j + k) (by omega) (by unfold W32; omega), Besides.set hout (Nat.le_refl _) (Nat.lt_succ_self _) _, ?_, ?_, ?_⟩
          · show _ = _; rw [List.take_set, List.set_eq_of_length_le (by simp; omega)]; exact ht.out
          · show _ = _; rw [List.drop_set, if_pos (by omega)]; exact hd1.out
          · exact take_step (by omega) hinv.out (by rw [← h3]; unfold W32; omega)
        case measure => simp [intOf] <;> omega
    · obtain rfl : k = v.length := by omega
      have hs1 := hO.out.1.cellAt (j + v.length) (by omega)
      have hf1 := hO.out.1.free (j + v.length)
      have FO := hO.out.2.nth32 (j + v.length)
      have hnd : Hid (nth o' (j + v.length) = nth o (j + v.length)) := by
        show _ = _
        have h := congrArg (fun l => nth l 0) hd.out
        simp only [nth_drop, Nat.add_zero] at h
        exact h
      have hd1 : Hid (o'.drop (j + v.length + 1) = o.drop (j + v.length + 1)) := by
        show _ = _
        have h := congrArg (fun l => List.drop 1 l) hd.out
        simpa [List.drop_drop] using h
      have fin : ∀ (bo d : Nat) (z : Int) (w2 : World), bo ≤ 1 → z = (d : Int) → d < W32 → nth o' (j + v.length) + W32 * bo = d + cc → w2 = wr.setCell ⟨g, j + v.length, none⟩ (.int .u32 z) → R (.returned (.bool (decide (bo = 1)))) w2 := by
        intro bo d z w2 h1 h2 h3 h4 h5
        subst h5
        refine hR.out _ _ ⟨o'.set (j + v.length) d, bo, rfl, h1, OwnL.set hO.out (j + v.length) h2 h3, Besides.set hout (Nat.le_refl _) (Nat.lt_succ_self _) _, by rw [len_set]; exact HOL.out, ?_, ?_, ?_⟩
        · rw [List.take_set, List.set_eq_of_length_le (by simp; omega)]; exact ht.out
        · rw [List.drop_set, if_pos (by omega)]; exact hd1.out
        · have h := take_step (v := v) (c' := bo) (d := d) (by omega) hinv.out (by rw [← hnd.out, nth_ge v _ (Nat.le_refl _)]; simpa using h4)
          rw [List.take_of_length_le (Nat.le_succ _)] at h
          exact h
      have FIN := Lib.hid fin
      clear fin
      by_cases hlt2 : (nth o' (j + v.length) : Int) < (cc : Int)
      · have hc3 : decide ((nth o' (j + v.length) : Int) < (cc : Int)) = true := decide_eq_true hlt2
        go_wp2
        exact FIN.out 1 (nth o' (j + v.length) + 4294967296 - cc) _ _ (Nat.le_refl _) (by omega) (by unfold W32; omega) (by unfold W32; omega) rfl
      · have hc3 : decide ((nth o' (j + v.length) : Int) < (cc : Int)) = false := decide_eq_false hlt2
        go_wp2
        exact FIN.out 0 (nth o' (j + v.length) - cc) _ _ (Nat.zero_le _) (by omega) (by unfold W32; omega) (by unfold W32; omega) rfl
theorem give_any {w : World} {vv : Value} {o v : List Nat} {g N cap c j B : Nat}
    (hO : OwnL 32 B w (.slice (some ⟨g, 0, none⟩) N cap) o) (hv : RdL w vv v) (hne : ∀ a l c, vv = .slice (some a) l c → a.block ≠ g) (hj : j + v.length + 1 ≤ o.length) (hc : v.length + 1 ≤ c) (hcm : c ≤ maxLen) :
    Calls Try.prog 40 #[.slice (some ⟨g, j, none⟩) (v.length + 1) c, vv] w fun e w' => ∃ o' bo, e = .returned (.tuple #[]) ∧ bo ≤ 1 ∧ OwnL 32 B w' (.slice (some ⟨g, 0, none⟩) N cap) o' ∧ Besides g (g + 1) w w' ∧ o'.length = o.length ∧ o'.take j = o.take j ∧ o'.drop (j + v.length + 1) = o.drop (j + v.length + 1) ∧
      val W32 ((o.drop j).take (v.length + 1)) + val W32 v = val W32 ((o'.drop j).take (v.length + 1)) + W32 ^ (v.length + 1) * bo := by
  refine via fun R hR => ?_
  have HV := Lib.hid hv
  have HO := Lib.hid hO
  have HNE := Lib.hid hne
  obtain ⟨a, ca, rfl, hla, hma, _, hca⟩ := hv.1.shape
  have HCA := Lib.hid hca
  clear hca hv hO hne
  unfold maxLen at hma hcm
  go_enter Try.func40, Try.ntmps40
  go_wp2_with fail
  go_loopw [4, 9] (fun c i wr => ∃ (k : Nat) (o' : List Nat) (cc : Nat), i = .int .i64 k ∧ k ≤ v.length ∧ o'.length = o.length ∧ c = .int .u64 cc ∧ cc ≤ 1 ∧ Hid (OwnL 32 B wr (.slice (some ⟨g, 0, none⟩) N cap) o') ∧ Besides g (g + 1) w wr ∧ Hid (o'.take j = o.take j) ∧ Hid (o'.drop (j + k) = o.drop (j + k)) ∧ Hid (val W32 ((o.drop j).take k) + val W32 (v.take k) = val W32 ((o'.drop j).take k) + W32 ^ k * cc)) (fun _ i _ => v.length - (intOf i).toNat)
  case atStart => exact ⟨0, o, 0, rfl, Nat.zero_le _, rfl, rfl, Nat.zero_le _, HO.out, Besides.refl _ _ _, rfl, rfl, by simp [Hid, val]⟩
  case round =>
    obtain ⟨k, o', cc, rfl, hk, hol, rfl, hcc, hO, hout, ht, hd, hinv⟩ := hrel
    have HOL := Lib.hid hol
    have hol2 : o.length ≤ o'.length := by omega
    clear hol
    by_cases hlt : k < v.length
    · obtain ⟨ba, oa, rfl, hc1⟩ := HCA.out k hlt
      have hrd := rd_out HV.out hout HNE.out (Nat.le_refl 0)
      have hc2 := hrd.1.cell k hlt
      have FA := HV.out.2.nth32 k
      have hs1 := hO.out.1.cellAt (j + k) (by omega)
      have hf1 := hO.out.1.free (j + k)
      have FO := hO.out.2.nth32 (j + k)
      have hnd : Hid (nth o' (j + k) = nth o (j + k)) := by
        show _ = _
        have h := congrArg (fun l => nth l 0) hd.out
        simp only [nth_drop, Nat.add_zero] at h
        exact h
      have hd1 : Hid (o'.drop (j + k + 1) = o.drop (j + k + 1)) := by
        show _ = _
        have h := congrArg (fun l => List.drop 1 l) hd.out
        simpa [List.drop_drop] using h
      clear hc1 hrd
      go_wp2
      go_roundw
      case rel =>
        have h3 := hnd.out
        refine ⟨k + 1, o'.set (j + k) ((nth o' (j + k) + nth v k + cc) % 4294967296), (nth o' (j + k) + nth v k + cc) / 4294967296, by go_num, by omega, by rw [len_set]; exact HOL.out, by go_num, by omega, OwnL.set hO.out (j + k) (by omega) (by unfold W32; omega), Besides.set hout (Nat.le_refl _) (Nat.lt_succ_self _) _, ?_, ?_, ?_⟩
        · show _ = _; rw [List.take_set, List.set_eq_of_length_le (by simp; omega)]; exact ht.out
        · show _ = _; rw [List.drop_set, if_pos (by omega)]; exact hd1.out
        · exact give_step (by omega) hinv.out (by rw [← h3]; unfold W32; omega)
      case measure => simp [intOf] <;> omega
    · obtain rfl : k = v.length := by omega
      have hs1 := hO.out.1.cellAt (j + v.length) (by omega)
      have hf1 := hO.out.1.free (j + v.length)
      have FO := hO.out.2.nth32 (j + v.length)
      have hnd : Hid (nth o' (j + v.length) = nth o (j + v.length)) := by
        show _ = _
        have h := congrArg (fun l => nth l 0) hd.out
        simp only [nth_drop, Nat.add_zero] at h
        exact h
      have hd1 : Hid (o'.drop (j + v.length + 1) = o.drop (j + v.length + 1)) := by
        show _ = _
        have h := congrArg (fun l => List.drop 1 l) hd.out
        simpa [List.drop_drop] using h
      go_wp2
      have fin : ∀ (z : Int), z = (((nth o' (j + v.length) + cc) % 4294967296 : Nat) : Int) → R (.returned (.tuple #[])) (wr.setCell ⟨g, j + v.length, none⟩ (.int .u32 z)) := by
        intro z h2
        refine hR.out _ _ ⟨o'.set (j + v.length) ((nth o' (j + v.length) + cc) % 4294967296), (nth o' (j + v.length) + cc) / 4294967296, rfl, by omega, OwnL.set hO.out (j + v.length) h2 (by unfold W32; omega), Besides.set hout (Nat.le_refl _) (Nat.lt_succ_self _) _, by rw [len_set]; exact HOL.out, ?_, ?_, ?_⟩
        · rw [List.take_set, List.set_eq_of_length_le (by simp; omega)]; exact ht.out
        · rw [List.drop_set, if_pos (by omega)]; exact hd1.out
        · have h := give_step (v := v) (c' := (nth o' (j + v.length) + cc) / 4294967296) (d := (nth o' (j + v.length) + cc) % 4294967296) (by omega) hinv.out (by rw [← hnd.out, nth_ge v _ (Nat.le_refl _)]; unfold W32; omega)
          rw [List.take_of_length_le (Nat.le_succ _)] at h
          exact h
      go_end0
      exact fin _ (by omega)

end Go.Proofs.Ytblbpelaleaonaa
