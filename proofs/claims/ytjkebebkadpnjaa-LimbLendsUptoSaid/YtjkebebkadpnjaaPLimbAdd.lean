/- limb.Add -/
import Derived.Test.YtjkebebkadpnjaaPLimbCut
namespace Go.Proofs.Ytjkebebkadpnjaa
open Go.RowKit Go.Att

theorem add_any {w : World} {va vb : Value} {xa xb : List Nat} (ha : RdL w va xa) (hb : RdL w vb xb) (hna : xa.length ≤ 1099511627776) (hnb : xb.length ≤ 1099511627776) :
    Calls Try.prog 19 #[va, vb] w (Gives w fun v' w' => OwnL 52 w.heap.size w' v' (limbs (nv xa + nv xb))) := by
  refine via fun R hR => ?_
  have HA := Lib.hid ha
  have HB := Lib.hid hb
  obtain ⟨a, ca, rfl, hla, hma, _, _⟩ := ha.1.shape
  obtain ⟨b, cb, rfl, hlb, hmb, _, _⟩ := hb.1.shape
  clear ha hb
  unfold maxLen at hma hmb
  go_enter Try.func19, Try.ntmps19
  go_upto_if 13 with (fail)
  go_cut [0, 1] (fun s0 s1 wx => wx = w ∧ Hid (∃ ya yb, RdL w s0 ya ∧ RdL w s1 yb ∧ yb.length ≤ ya.length ∧ nv ya + nv yb = nv xa + nv xb ∧ ya.length ≤ 1099511627776))
  case first =>
    by_cases hlen : xa.length < xb.length
    · go_wp2_with fail
      go_meet
      exact ⟨rfl, xb, xa, HB.out, HA.out, by omega, by omega, hnb⟩
    · go_wp2_with fail
      go_meet
      exact ⟨rfl, xa, xb, HA.out, HB.out, by omega, by omega, hna⟩
  case rest =>
    obtain ⟨rfl, hh⟩ := hcut
    obtain ⟨ya, yb, hya, hyb, hle, hsum, hlen⟩ := hh.out
    clear hh hla hma hlb hmb hna hnb
    have HSUM := Lib.hid hsum
    have HYA := Lib.hid hya
    have HYB := Lib.hid hyb
    obtain ⟨a1, ca1, rfl, hla, hma, _, hca⟩ := hya.1.shape
    obtain ⟨b1, cb1, rfl, hlb, hmb, _, hcb⟩ := hyb.1.shape
    have HCA := Lib.hid hca
    have HCB := Lib.hid hcb
    clear hca hcb hya hyb hsum
    unfold maxLen at hma hmb
    go_wp2_with (at_make; refine make_cap et32 rfl _ _ rfl _ _ (ya.length + 1) rfl rfl (by omega) (by unfold maxLen; omega) ?_)
    intro w1 ho hext
    have HO := Lib.hid ho
    have hsz := hext.size
    clear ho
    go_wp2_with fail
    go_loopw [5, 6, 22] (fun out c i wr => ∃ (k : Nat) (o : List Nat) (cc : Nat), i = .int .i64 k ∧ k ≤ ya.length ∧ o.length = k ∧ c = .int .u64 cc ∧ cc ≤ 1 ∧ Hid (OwnL 52 wc.heap.size wr out o) ∧ Hid (nv o + W32 ^ k * cc = nv (ya.take k) + nv (yb.take k)) ∧ Below wc.heap.size wc wr)
      (fun _ _ i _ => ya.length - (intOf i).toNat)
    case atStart => exact ⟨0, [], 0, rfl, Nat.zero_le _, rfl, rfl, by omega, ⟨HO.out, Fit.nil _⟩, by simp [Hid, val], hext⟩
    case round =>
      obtain ⟨k, o, cc, rfl, hk, hol, rfl, hcc, hO, hinv, hbel⟩ := hrel
      have hsz2 := hbel.size
      have HINV := hinv
      clear hext hsz
      by_cases hlt : k < ya.length
      · obtain ⟨ba, oa, rfl, hc1⟩ := HCA.out k hlt
        have hc1' := Ext.cell hbel hc1
        have FA := HYA.out.2.nth32 k
        clear hc1
        by_cases hlt2 : k < yb.length
        · obtain ⟨bb, ob, rfl, hc2⟩ := HCB.out k hlt2
          have hc2' := Ext.cell hbel hc2
          have FB := HYB.out.2.nth32 k
          clear hc2
          go_wp2_with (at_builtin; refine append_rd et32 rfl _ _ rfl wc.heap.size rfl (Ext.owns (Ext.alloc _ _) hO.out.1) rfl (RdV.lit _ _ _ _ 1 rfl (by unfold maxLen; omega)) (by intro u hu; simp at hu; subst hu; rfl) (by omega) (by unfold maxLen; omega) (by simp; omega) ?_)
          intro v2 w2 ho2 hb2 _
          have HO2 := Lib.hid ho2
          clear ho2
          go_wp2
          go_roundw
          case rel =>
            exact ⟨k + 1, o ++ [(cc + nth ya k + nth yb k) % W32], (cc + nth ya k + nth yb k) / W32, rfl, by omega, by simp; omega, by unfold W32; go_num, by unfold W32; omega,
              OwnL.snoc HO2.out (by omega) (by unfold W32; omega) hO.out.2 (Nat.mod_lt _ (by decide)), add_step hol hinv.out rfl, (hbel.alloc hsz2 _).trans hb2⟩
          case measure => simp [intOf] <;> omega
        · have hy0 := Lib.hid (nth_ge yb k (by omega))
          go_wp2_with (at_builtin; refine append_rd et32 rfl _ _ rfl wc.heap.size rfl (Ext.owns (Ext.alloc _ _) hO.out.1) rfl (RdV.lit _ _ _ _ 1 rfl (by unfold maxLen; omega)) (by intro u hu; simp at hu; subst hu; rfl) (by omega) (by unfold maxLen; omega) (by simp; omega) ?_)
          intro v2 w2 ho2 hb2 _
          have HO2 := Lib.hid ho2
          clear ho2
          go_wp2
          go_roundw
          case rel =>
            exact ⟨k + 1, o ++ [(cc + nth ya k) % W32], (cc + nth ya k) / W32, rfl, by omega, by simp; omega, by unfold W32; go_num, by unfold W32; omega,
              OwnL.snoc HO2.out (by omega) (by unfold W32; omega) hO.out.2 (Nat.mod_lt _ (by decide)), add_step hol hinv.out (by rw [hy0.out]; rfl), (hbel.alloc hsz2 _).trans hb2⟩
          case measure => simp [intOf] <;> omega
      · go_wp2_with (at_builtin; refine append_rd et32 rfl _ _ rfl wc.heap.size rfl (Ext.owns (Ext.alloc _ _) hO.out.1) rfl (RdV.lit _ _ _ _ 1 rfl (by unfold maxLen; omega)) (by intro u hu; simp at hu; subst hu; rfl) (by omega) (by unfold maxLen; omega) (by simp; omega) ?_)
        intro v2 w2 ho2 hb2 _
        have HO2 := Lib.hid (OwnL.snoc (d := cc) ho2 (by omega) rfl hO.out.2 (by unfold W32; omega))
        have hb3 : Below wc.heap.size wc w2 := (hbel.alloc hsz2 _).trans hb2
        have htot : nv (o ++ [cc]) = nv xa + nv xb := by
          have h1 := hinv.out
          unfold nv at *
          rw [val_take_ge _ _ _ (by omega), val_take_ge _ _ _ (by omega)] at h1
          rw [val_snoc, hol, h1]
          exact HSUM.out
        have HT := Lib.hid htot
        clear ho2 htot hb2
        go_wp2_with (go_at_call 32; refine (norm_any HO2.out.rd (by simp; omega)).mono ?_; rintro e w3 ⟨v3, rfl, hb4, ho3⟩)
        have HO3 := Lib.hid ho3
        clear ho3
        go_wp2
        have ho4 := HO3.out
        rw [HT.out] at ho4
        exact hR.out _ _ (Gives.mk (hb3.trans (hb4.mono hb3.size)) (ho4.mono hb3.size))
end Go.Proofs.Ytjkebebkadpnjaa
