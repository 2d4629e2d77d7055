/- LimbBytes: a natural's bytes are as few as hold it and are read back as the number, and any bytes are read as the number they say. Conditions: the arguments hold together at most 1048576 values (the second form, Upto). -/
import Derived.Test.YtjkebebkadpnjaaFrame
import Derived.Test.YtjkebebkadpnjaaW12
import Derived.Test.YtjkebebkadpnjaaNum5
namespace Go.Proofs.Ytjkebebkadpnjaa.limbBytes
open Go.ChangeShapes Go.WideShapes Go.ChangeAt Go.RowKit Go.Att

theorem bytes_len (n : Nat) : (digs 256 n).length = ((bitsOf n).length + 7) / 8 := by
  apply eq_of_le
  intro k
  rw [digs_len 256 (by decide), show (256 : Nat) = 2 ^ 8 from rfl, ← Nat.pow_mul, ← bitsOf_len]
  omega
theorem val_pad (n : Nat) : val 256 (digs 256 n ++ [0, 0]) = n := by
  rw [val_app, val_digs 256 (by decide)]
  simp [val]
theorem byte_inner {o : List Bool} {xs : List Nat} {k x i ww : Nat} (hol : o.length = 8 * k + i) (hinv : bval o = val 256 (xs.take k) + 2 ^ (8 * k) * (x % 2 ^ i)) (hw : ww = x / 2 ^ i) :
    bval (o ++ [ww % 2 == 1]) = val 256 (xs.take k) + 2 ^ (8 * k) * (x % 2 ^ (i + 1)) := by
  rw [bval_snoc, hinv, bit_toNat, hol, hw, Nat.pow_succ, Nat.mod_mul, Nat.mul_add, Nat.pow_add]
  simp only [Nat.mul_assoc, Nat.add_assoc]
theorem byte_outer {xs : List Nat} {k : Nat} (h : nth xs k < 256) : val 256 (xs.take k) + 2 ^ (8 * k) * (nth xs k % 2 ^ 8) = val 256 (xs.take (k + 1)) := by
  rw [val_take_succ, show (2 : Nat) ^ (8 * k) = 256 ^ k by rw [Nat.pow_mul], Nat.mod_eq_of_lt (by omega)]

theorem walk {w : World} {va vb : Value} {xa xb : List Nat} (ha : RdL w va xa) (hla : xa.length ≤ 1048576) (hb : RdI .u8 w vb xb ∧ Fit 256 xb) (hlb : xb.length ≤ 1048576) :
    Calls Try.prog 5 #[va, vb] w (Gives w fun v' _ => v' = .bool true) := by
  refine via fun R hR => ?_
  have HA := Lib.hid ha
  have HB := Lib.hid hb
  have SA := Lib.hid (Nat.le_trans (blen_nv ha.2) (Nat.mul_le_mul_left 32 hla))
  have LD : Hid ((digs 256 (nv xa)).length = ((bitsOf (nv xa)).length + 7) / 8) := bytes_len _
  obtain ⟨b, cb, rfl, hlcb, hmb, _, hcb⟩ := hb.1.shape
  have HCB := Lib.hid hcb
  clear ha hb hcb
  unfold maxLen at hmb
  go_enter Try.func5, Try.ntmps5
  go_wp2_with fail
  refine (Copy_any HA.out (by omega)).mono ?_
  rintro e w1 ⟨v1, rfl, b1, o1⟩
  have O1 := Lib.hid o1
  clear o1
  go_wp2_with fail
  refine (pack_any O1.out.rd (by omega)).mono ?_
  rintro e w2 ⟨v2, rfl, b2, o2⟩
  have O2 := Lib.hid o2
  clear o2
  go_wp2_with fail
  refine (Of_any (HA.out.ext (Ext.trans b1 b2)) (by omega)).mono ?_
  rintro e w3 ⟨v3, rfl, b3, o3⟩
  have O3 := Lib.hid o3
  clear o3
  go_wp2_with fail
  refine (awake02).mono ?_
  rintro e w4 ⟨_, rfl, b4, rfl⟩
  obtain ⟨a2, c2, rfl, hlc2, hm2, _, _⟩ := O2.out.rd.shape
  obtain ⟨a3, c3, rfl, hlc3, hm3, _, _⟩ := O3.out.rd.shape
  have sa := SA.out
  have ld1 : (digs 256 (nv xa)).length ≤ ((bitsOf (nv xa)).length + 7) / 8 := Nat.le_of_eq LD.out
  have ld2 : ((bitsOf (nv xa)).length + 7) / 8 ≤ (digs 256 (nv xa)).length := Nat.le_of_eq LD.out.symm
  have hne : (((digs 256 (nv xa)).length : Int) != (((bitsOf (nv xa)).length : Int) + 7) / 8) = false := bneF (by omega)
  unfold maxLen at hm2 hm3
  go_wp2_with (at_builtin; refine append_rd et8 rfl _ _ rfl w4.heap.size rfl (World.ownsRow_lit w4 #[] 0 (Nat.le_refl _) (Nat.zero_le _) rfl) rfl (RdV.ext O2.out.rd (Ext.trans (Ext.trans b3 b4) (Ext.alloc _ _))) (ints_one _ _) (by omega) (by unfold maxLen; omega) (by simp) ?_)
  intro v5 w5 o5 b5 _
  have O5 := Lib.hid o5
  have hs5 := b5.size
  clear o5
  go_wp2_with (at_builtin; refine append_rd et8 rfl _ _ rfl w4.heap.size rfl (Ext.owns (Ext.alloc _ _) O5.out) rfl (RdV.lit w5 #[.int .u8 0, .int .u8 0] 5 1 2 rfl (by unfold maxLen; omega)) (by intro u hu; simp at hu; subst hu; rfl) (by omega) (by unfold maxLen; omega) (by simp at hs5; simp; omega) ?_)
  intro v6 w6 o6 b6 _
  have O6 : Hid (OwnI .u8 5 w4.heap.size w6 v6 (digs 256 (nv xa) ++ [0, 0])) := OwnI.app o6 (by simp) rfl
  have X6 : Ext w4 w6 := Below.trans (Ext.alloc _ _) (Below.trans (Below.mono b5 (by simp)) (Below.trans (Below.alloc (Below.refl _ _) (by simp at hs5; omega) _) b6))
  clear o6
  go_wp2_with fail
  refine (unpack_any O6.out.rd ((fit_digs 256 (by decide) _).app (by intro x hx; simp at hx; omega)) (by simp; omega)).mono ?_
  rintro e w7 ⟨v7, rfl, b7, o7⟩
  have O7 := Lib.hid o7
  clear o7
  rw [val_pad] at O7
  have X7 : Ext w4 w7 := Ext.trans X6 b7
  go_wp2_with fail
  refine (To_any (O3.out.rd.ext (Ext.trans b4 X7)) (by omega)).mono ?_
  rintro e w8 ⟨v8, rfl, b8, o8⟩
  have O8 := Lib.hid o8
  clear o8
  go_wp2_with fail
  refine (Same_yes (O7.out.rd.ext b8) O8.out.rd (by rw [bval_bitsOf])).mono ?_
  rintro e w9 ⟨_, rfl, b9, rfl⟩
  have X9 : Ext w w9 := Ext.trans (Ext.trans b1 (Ext.trans b2 (Ext.trans b3 b4))) (Ext.trans X7 (Ext.trans b8 b9))
  have hs9 := X9.size
  clear ld1 ld2 hne hlc2 hm2 hlc3 hm3 sa hs5
  go_wp2
  go_loopw [7, 9, 10, 42] (fun b _ _ i wr => ∃ (k : Nat) (o : List Bool), i = .int .i64 k ∧ k ≤ xb.length ∧ o.length = 8 * k ∧ Hid (OwnB 4 w.heap.size wr b o) ∧ Hid (bval o = val 256 (xb.take k)) ∧ Ext w wr) (fun _ _ _ i _ => xb.length - (intOf i).toNat)
  case atStart => exact ⟨0, [], rfl, Nat.zero_le _, rfl, World.ownsRow_lit w9 #[] 0 (by omega) (Nat.zero_le _) rfl, by simp [Hid, val, bval_nil], Ext.trans X9 (Ext.alloc _ _)⟩
  case round =>
    obtain ⟨k, o, rfl, hk, hol, hO, hinv, hbel⟩ := hrel
    have hsz := hbel.size
    clear hs9
    by_cases hlt : k < xb.length
    · obtain ⟨ba, oa, rfl, hc⟩ := HCB.out k hlt
      have hc2 := Ext.cell hbel hc
      have FA := HB.out.2.nth (by decide) k
      clear hc
      go_wp2
      obtain ⟨wo, rfl⟩ : ∃ wo : World, wo = wr := ⟨_, rfl⟩
      go_loopw [7, 9, 10] (fun b x i wr => ∃ (n : Nat) (o : List Bool) (ww : Nat), i = .int .i64 n ∧ n ≤ 8 ∧ o.length = 8 * k + n ∧ x = .int .u8 ww ∧ ww ≤ 255 ∧ Hid (ww = nth xb k / 2 ^ n) ∧ Hid (OwnB 4 w.heap.size wr b o) ∧ Hid (bval o = val 256 (xb.take k) + 2 ^ (8 * k) * (nth xb k % 2 ^ n)) ∧ Ext w wr) (fun _ _ i _ => 8 - (intOf i).toNat)
      case atStart => exact ⟨0, o, nth xb k, rfl, by omega, by omega, rfl, by omega, by simp [Hid], hO, by simp [Hid, Nat.mod_one]; exact hinv.out, hbel⟩
      case round =>
        obtain ⟨n, o2, ww, rfl, hn, hol2, rfl, hww, hw2, hO2, hinv2, hbel2⟩ := hrel
        have hsz2 := hbel2.size
        clear hbel hc2 hsz
        by_cases hlt2 : n < 8
        · go_wp2_with (at_builtin; refine append_rd etB rfl _ _ rfl w.heap.size rfl (Ext.owns (Ext.alloc _ _) hO2.out) rfl (RdV.lit _ _ _ _ 1 rfl (by unfold maxLen; omega)) (by intro u hu; simp at hu; subst hu; rfl) (by omega) (by unfold maxLen; omega) (by simp; omega) ?_)
          intro v2 w2 ho2 hb2 _
          have HO2 := Lib.hid ho2
          clear ho2
          go_wp2
          go_roundw
          case rel => exact ⟨n + 1, o2 ++ [ww % 2 == 1], ww / 2, by go_num, by omega, by simp; omega, by go_num, by omega, by rw [hw2.out, Nat.pow_succ, Nat.div_div_eq_div_mul]; rfl, OwnB.snoc HO2.out (by omega) (bit_dec ww), byte_inner hol2 hinv2.out hw2.out, Below.trans (Below.alloc hbel2 hsz2 _) hb2⟩
          case measure => simp [intOf] <;> omega
        · go_wp2
          go_roundw
          case rel =>
            obtain rfl : n = 8 := by omega
            exact ⟨k + 1, o2, by go_num, by omega, by omega, hO2, by rw [← byte_outer FA]; exact hinv2.out, hbel2⟩
          case measure => simp [intOf] <;> omega
    · have E : Hid (bval o = val 256 xb) := by
        show _ = _
        have h := hinv.out
        rw [val_take_ge _ _ _ (by omega)] at h
        exact h
      have hol3 : o.length ≤ 8388608 := by omega
      clear hol
      go_wp2_with (at_builtin; refine append_rd et8 rfl _ _ rfl wr.heap.size rfl (World.ownsRow_lit wr #[] 0 (Nat.le_refl _) (Nat.zero_le _) rfl) rfl (RdV.ext HB.out.1 (Ext.trans hbel (Ext.alloc _ _))) (ints_one _ _) (by omega) (by unfold maxLen; omega) (by simp) ?_)
      intro v1 w1 o1 b1 _
      have O1 : Hid (OwnI .u8 5 wr.heap.size w1 v1 xb) := OwnI.app (o := []) o1 (by simp) rfl
      have X1 : Ext wr w1 := Below.trans (Ext.alloc _ _) (Below.mono b1 (by simp))
      clear o1
      go_wp2_with fail
      refine (unpack_any O1.out.rd HB.out.2 (by omega)).mono ?_
      rintro e w2 ⟨v2, rfl, b2, o2⟩
      have O2 := Lib.hid o2
      clear o2
      go_wp2_with fail
      refine (CutOwn (OwnB.ext hO.out (Ext.trans X1 b2))).mono ?_
      rintro e w3 ⟨v3, rfl, rfl, o3⟩
      have O3 := Lib.hid o3
      clear o3
      have hlc : (bitsOf (bval o)).length ≤ 8388608 := by
        have h1 := (bitsOf_len (bval o) o.length).2 (bval_lt o)
        omega
      go_wp2_with fail
      refine (To_any O3.out.rd (by omega)).mono ?_
      rintro e w4 ⟨v4, rfl, b4, o4⟩
      have O4 := Lib.hid o4
      clear o4
      go_wp2_with fail
      refine (Same_yes (O2.out.rd.ext b4) O4.out.rd (by rw [bval_bitsOf, E.out])).mono ?_
      rintro e w5 ⟨_, rfl, b5, rfl⟩
      go_wp2
      exact hR.out _ _ (Gives.mk (Ext.trans hbel (Ext.trans X1 (Ext.trans b2 (Ext.trans b4 b5)))) rfl)
theorem own : ownKnob Try.prog.godebug = none := by kernel_rfl
theorem laidOut : laidOutB Try.prog = true := by kernel_rfl

set_option maxRecDepth 100000 in
theorem contract (H : Type) (enc : TypeId × Value → H) (W : World) (base : Nat) (args : Array Value) (ds gs : List (DataW H)) (before : List MemPlace)
    (hval : ∀ (j : Nat) t v, Try.f5.params[j]? = some t → args[j]? = some v → Value.okWide Try.prog W .any base t v)
    (hW : DataW.Whole enc Try.prog Try.f5.params.toList Rows.limbBytesSpec.vars false W args.toList ds gs before) (hk : Rows.uptoSmall H (ds ++ gs) = true) :
    Calls Try.prog 5 args W fun e W' => ∃ v, e = .returned v ∧ Rows.limbBytesSpec.post enc Try.prog Try.f5 false true false false W args v W' := by
  have hW' := hW
  obtain ⟨p, q, hA0, hV, rfl, hfz, hnd⟩ := hW
  have hA : DataW.TrodAll enc Try.prog W 0 (fun _ => true) true Try.f5.params.toList args.toList ds p := hA0
  rw [Try.params5] at hA hval
  obtain ⟨v0, vs0, d0, ds0, p0, q0, hargs, rfl, rfl, h0, r0⟩ := trodAll_cons hA
  obtain ⟨v1, vs1, d1, ds1, p1, q1, rfl, rfl, rfl, h1, r1⟩ := trodAll_cons r0
  obtain ⟨rfl, rfl, rfl⟩ := trodAll_nil r1
  obtain rfl : args = #[v0, v1] := by cases args; simp_all
  obtain ⟨rfl, rfl⟩ := trodVars_none hV
  have hb := bulk_small hk
  simp only [List.append_nil, bulk_cons, bulk_nil] at hb
  have k0 := h0
  have lt0 : ∀ x ∈ p0, x.block < W.heap.size := by obtain ⟨m, hm⟩ := k0; exact DataW.trod_lt m _ _ _ hm
  obtain ⟨x0, rd0, len0⟩ := open_u32s (hval 0 22 v0 rfl rfl) h0
  have k1 := h1
  have lt1 : ∀ x ∈ p1, x.block < W.heap.size := by obtain ⟨m, hm⟩ := k1; exact DataW.trod_lt m _ _ _ hm
  obtain ⟨x1, rd1, len1⟩ := open_u8s (hval 1 41 v1 rfl rfl) h1
  clear hA0
  refine (walk rd0 (by omega) rd1 (by omega)).mono fun e W' ⟨v, he, bel, hv⟩ => ?_
  subst he hv
  exact ⟨_, rfl, _, _, _, [], _, [], hW', trodAll_mk1 (shut_bool Try.underlying4 _), (trodAll_cons_mk (Below.trod laidOut (by kernel_rfl) (of_decide_eq_true (by kernel_rfl)) k0 bel lt0) (trodAll_cons_mk (Below.trod laidOut (by kernel_rfl) (of_decide_eq_true (by kernel_rfl)) k1 bel lt1) trodAll_mk0)), rfl, bel.frame _, fun h => by cases h⟩

set_option maxRecDepth 100000 in
theorem lifted (os : Os) (started : os.Started) (H : Type) (enc : TypeId × Value → H) (F : Stop.Interp) :
    ReturnsInHanded {} Try.checked os 5 .any ((Rows.OpenSpec.upto Rows.limbBytesSpec).pre6 enc Try.prog Try.f5 Rows.limbBytesUptoRow.domain false) (((Rows.OpenSpec.upto Rows.limbBytesSpec).at F).post enc Try.prog Try.f5 false true false false) := by
  refine returnsInHanded_of_cond (C := Try.checked) (s := Rows.OpenSpec.upto Rows.limbBytesSpec) (k := Rows.uptoSmall) rfl own started (by kernel_rfl) Try.func5
    (OpenSpec.witness (enc := enc) (C := Try.checked) (s := Rows.OpenSpec.upto Rows.limbBytesSpec) (k := Rows.uptoSmall) rfl false ⟨#[], #[.slice none 0 0, .slice none 0 0], []⟩ 8 (by kernel_rfl) (by kernel_rfl) (by kernel_rfl)
      (x := ([.nil, .nil], [], [])) (by kernel_rfl) rfl (by kernel_rfl)) ?_
  intro W base args ds gs before hval hW _ hk _
  exact contract H enc W base args ds gs before hval hW hk

theorem proved : Rows.LimbBytesUptoSaid :=
  OpenClaim.holds_of_cond 5 Try.f5 rfl rfl rfl rfl rfl rfl rfl ⟨rfl, rfl, rfl, rfl, rfl⟩ rfl rfl rfl rfl rfl (by kernel_rfl) Try.func5 (by kernel_rfl)
    (of_decide_eq_true (by kernel_rfl)) (by unfold Func.isWrapper; first | (rw [if_pos (by decide +kernel)]; kernel_rfl) | (rw [if_neg (by decide +kernel)]; exact ⟨rfl, rfl⟩))
    (fun os started H enc _ F => lifted os started H enc F)
#print axioms proved

end Go.Proofs.Ytjkebebkadpnjaa.limbBytes
