/- attestref08.Vars -/
import Derived.Test.YtnbbhpihlcglgaaLinPlain
import Derived.Test.YtnbbhpihlcglgaaPR8Coef
namespace Go.Proofs.Ytnbbhpihlcglgaa
open Go.RowKit Go.Att

def RdYp (w : World) (v : Value) (p : TL × Rat) : Prop := RdY w v p.1 p.2
theorem RdYp.ext {w w' : World} {v : Value} {p : TL × Rat} (h : RdYp w v p) (x : Ext w w') : RdYp w' v p := RdEy.ext h x
theorem cells_Y {w : World} {cs : List Value} {p : TL × Rat} (h : RdYp w (.agg cs.toArray) p) : ∃ a k s b m d b' m' d', cs = [.slice a p.1.length k, .bool s, .slice b m d, .slice b' m' d'] ∧ RdRow 4 (OwnTp 4) w (.slice a p.1.length k) p.1 := by
  obtain ⟨a, k, s, b, m, d, b', m', d', he, -, -, h1, -⟩ := RdEy.op h
  have : cs.toArray = #[.slice a p.1.length k, .bool s, .slice b m d, .slice b' m' d'] := by simpa using he
  exact ⟨a, k, s, b, m, d, b', m', d', by simpa using congrArg Array.toList this, h1.out⟩
theorem etInt8 : ElemT Try.prog 65 3 (.int .i64 0) 1 8 := ElemT.mk' Try.underlying65 (by kernel_rfl) rfl (by decide)
/-- Does the variable stand there? -/
def InV (x : Int) (l : TL) : Prop := ∃ t ∈ l, t.1 = x
def InVs (x : Int) (es : List (TL × Rat)) : Prop := ∃ p ∈ es, InV x p.1
/-- The new row while the old one is gone through: all of it but y, and y where d is true. -/
def NxI (y : Int) (us : List Int) (m : Nat) (d : Bool) (ns : List Int) : Prop := (us.Nodup → ns.Nodup) ∧ ns.length ≤ m + d.toNat ∧ ∀ x, x ∈ ns ↔ (x ∈ us.take m ∧ x ≠ y) ∨ (d = true ∧ x = y)
theorem nodup_snoc {l : List Int} {x : Int} (h : l.Nodup) (hx : x ∉ l) : (l ++ [x]).Nodup := by
  rw [List.nodup_append]
  exact ⟨h, by simp, fun a ha b hb => by rw [List.mem_singleton.1 hb]; exact fun e => hx (e ▸ ha)⟩
theorem NxI.start (y : Int) (us : List Int) : NxI y us 0 false [] := ⟨fun _ => List.nodup_nil, Nat.zero_le _, fun x => by simp⟩
theorem NxI.ins {y : Int} {us ns : List Int} {m : Nat} (h : NxI y us m false ns) : NxI y us m true (ns ++ [y]) := ⟨fun hu => nodup_snoc (h.1 hu) fun hy => by
  rcases (h.2.2 y).1 hy with g | g
  · exact g.2 rfl
  · exact absurd g.1 (by decide), by have := h.2.1; simp at this ⊢; omega, fun x => by
  rw [List.mem_append, h.2.2 x, List.mem_singleton]
  simp⟩
theorem NxI.put {y u : Int} {us ns : List Int} {m : Nat} {d : Bool} (h : NxI y us m d ns) (hm : m < us.length) (hu : us[m] = u) (hne : u ≠ y) : NxI y us (m + 1) d (ns ++ [u]) := ⟨fun hn => nodup_snoc (h.1 hn) fun hy => by
  rcases (h.2.2 u).1 hy with g | g
  · rw [← List.take_append_drop m us, List.nodup_append] at hn
    refine hn.2.2 u g.1 u ?_ rfl
    rw [← hu]
    exact List.mem_drop_iff_getElem.2 ⟨0, by simpa using hm, by simp⟩
  · exact hne g.2, by have := h.2.1; simp at this ⊢; omega, fun x => by
  rw [← List.take_append_getElem hm, List.mem_append, List.mem_append, h.2.2 x, List.mem_singleton, List.mem_singleton, hu]
  constructor
  · rintro (h | h)
    · rcases h with h | h
      · exact .inl ⟨.inl h.1, h.2⟩
      · exact .inr h
    · exact .inl ⟨.inr h, h ▸ hne⟩
  · rintro (⟨h | h, h2⟩ | h)
    · exact .inl (.inl ⟨h, h2⟩)
    · exact .inr h
    · exact .inl (.inr h)⟩
theorem NxI.skip {y u : Int} {us ns : List Int} {m : Nat} {d : Bool} (h : NxI y us m d ns) (hm : m < us.length) (hu : us[m] = u) (hne : u = y) : NxI y us (m + 1) d ns := ⟨h.1, by have := h.2.1; omega, fun x => by
  rw [← List.take_append_getElem hm, List.mem_append, h.2.2 x, List.mem_singleton, hu]
  constructor
  · rintro (h | h)
    · exact .inl ⟨.inl h.1, h.2⟩
    · exact .inr h
  · rintro (⟨h | h, h2⟩ | h)
    · exact .inl ⟨h, h2⟩
    · exact absurd (h.trans hne) h2
    · exact .inr h⟩
theorem NxI.fin {y : Int} {us ns : List Int} (h : NxI y us us.length true ns) : ns.length ≤ us.length + 1 ∧ (us.Nodup → ns.Nodup) ∧ ∀ x, x ∈ ns ↔ x ∈ us ∨ x = y := ⟨h.2.1, h.1, fun x => by
  rw [h.2.2 x, List.take_length]
  constructor
  · rintro (h | h)
    · exact .inl h.1
    · exact .inr h.2
  · intro h
    by_cases hx : x = y
    · exact .inr ⟨rfl, hx⟩
    · exact .inl ⟨h.resolve_right hx, hx⟩⟩
set_option linter.unusedSimpArgs false in
set_option maxHeartbeats 4000000 in
set_option maxRecDepth 100000 in
theorem r8vars_nd {w : World} {v : Value} {es : List (TL × Rat)} (hv : RdRow 4 RdYp w v es) (he : es.length ≤ 1000) (hs : ∀ p ∈ es, p.1.length ≤ 1000) :
    Calls Try.prog 32 #[v] w (Gives w fun v' w' => ∃ vs : List Int, RdRow 1 IntT w' v' vs ∧ vs.length ≤ 10000000 ∧ vs.Nodup ∧ ∀ x, x ∈ vs ↔ InVs x es) := by
  refine via fun R hR => ?_
  have HS := Lib.hid hs
  obtain ⟨a, k, rfl, hlk, hkm⟩ := hv.shape
  have HV := Lib.hid hv
  unfold maxLen at hkm
  clear hv hs
  go_enter Try.func32, Try.ntmps32
  go_wp2_with fail
  have b01 : Ext w (w.alloc (.cells #[] 3)) := Ext.alloc _ _
  go_loopw [3, 15] (fun o t wr => ∃ (j : Nat) (vs : List Int), t = .int .i64 j ∧ j ≤ es.length ∧ Ext w wr ∧ Hid (RdRow 1 IntT wr o vs) ∧ vs.length ≤ j * 1000 ∧ Hid (vs.Nodup ∧ ∀ x, x ∈ vs ↔ InVs x (es.take j))) (fun _ t _ => es.length - (intOf t).toNat)
  case atStart => exact ⟨0, [], rfl, Nat.zero_le _, b01, (OwnRow.nilLit (B := w.heap.size) _ (Nat.le_refl _)).rd, Nat.zero_le _, List.nodup_nil, fun x => ⟨fun h => (by cases h), fun h => by
    obtain ⟨p, hp, -⟩ := h
    rw [List.take_zero] at hp
    cases hp⟩⟩
  case round =>
    obtain ⟨j, vs, rfl, hj, hx, hO, hvl, hM⟩ := hrel
    obtain ⟨ao, ko, rfl, hok, hokm⟩ := hO.out.shape
    by_cases hjl : j < es.length
    · have hd : decide ((j : Int) < (es.length : Int)) = true := decide_eq_true (by omega)
      obtain ⟨bE, oE, cs, rfl, hcl, hT, hc⟩ := HV.out.at (by decide) j hjl
      obtain ⟨at', kt, se, be, me, de, be', me', de', rfl, hrow⟩ := cells_Y hT
      have HLT := Lib.hid (HS.out _ (List.getElem_mem hjl))
      have HTK : Hid (∀ x, InVs x (es.take (j + 1)) ↔ InVs x (es.take j) ∨ InV x es[j].1) := fun x => by
        rw [← List.take_append_getElem hjl]
        constructor
        · rintro ⟨p, hp, h⟩
          rcases List.mem_append.1 hp with hp | hp
          · exact .inl ⟨p, hp, h⟩
          · rw [List.mem_singleton.1 hp] at h; exact .inr h
        · rintro (⟨p, hp, h⟩ | h)
          · exact ⟨p, List.mem_append_left _ hp, h⟩
          · exact ⟨_, List.mem_append_right _ List.mem_cons_self, h⟩
      have HROW := Lib.hid (hrow.ext OwnTp.ext hx)
      have e0 := Ext.cell hx (hc 0 (by decide))
      have e1 := Ext.cell hx (hc 1 (by decide))
      have e2 := Ext.cell hx (hc 2 (by decide))
      have e3 := Ext.cell hx (hc 3 (by decide))
      simp only [List.getElem?_cons_zero, List.getElem?_cons_succ, Nat.add_zero] at e0 e1 e2 e3
      have hJ1 : IntKind.i64.wrap (j : Int) = (j : Int) := by rw [IntKind.wrap_i64]; omega
      have hJ2 : (0 : Int) ≤ (j : Int) ∧ (j : Int) < (es.length : Int) := ⟨by omega, by omega⟩
      generalize es[j] = pe at *
      obtain ⟨l, ce⟩ := pe
      change Hid (l.length ≤ 1000) at HLT
      change Hid (∀ x, _ ↔ _ ∨ InV x l) at HTK
      change Hid (RdRow 4 (OwnTp 4) wr (.slice at' l.length kt) l) at HROW
      clear hrow hT hc hcl
      obtain ⟨w2, hw2, b2, c2, -, -⟩ := bx1 wr [.slice at' l.length kt, .bool se, .slice be me de, .slice be' me' de'] 69
      have HW := Lib.hid hw2
      have C2 := Lib.hid c2
      clear hw2 c2
      go_upto_region 5 with (fail)
      rw [← HW.out]
      clear HW e0 e1 e2 e3
      have k0 := C2.out.c1
      go_wp2_with fail
      clear k0
      have b0r := Ext.trans hx b2
      have HR2 := Lib.hid (HROW.out.ext OwnTp.ext b2)
      have HO2 := Lib.hid (hO.out.ext IntT.ext b2)
      clear hO HROW
      go_loopw [3, 22] (fun o t wx => ∃ (i : Nat) (us : List Int), t = .int .i64 i ∧ i ≤ l.length ∧ Ext w2 wx ∧ Hid (RdRow 1 IntT wx o us) ∧ us.length ≤ j * 1000 + i ∧ Hid (us.Nodup ∧ ∀ x, x ∈ us ↔ InVs x (es.take j) ∨ InV x (l.take i))) (fun _ t _ => l.length - (intOf t).toNat)
      case atStart => exact ⟨0, vs, rfl, Nat.zero_le _, Ext.refl _, HO2.out, by omega, hM.out.1, fun x => ⟨fun h => .inl ((hM.out.2 x).1 h), fun h => by
        rcases h with h | ⟨t, ht, -⟩
        · exact (hM.out.2 x).2 h
        · rw [List.take_zero] at ht; cases ht⟩⟩
      case round =>
        obtain ⟨i, us, rfl, hi, hx2, hU, hul, hMU⟩ := hrel
        obtain ⟨au, ku, rfl, huk, hukm⟩ := hU.out.shape
        by_cases hil : i < l.length
        · have hd2 : decide ((i : Int) < (l.length : Int)) = true := decide_eq_true (by omega)
          have hlt := HLT.out
          obtain ⟨bT, oT, rfl⟩ := HR2.out.some_atP hil
          obtain ⟨sx, ax, lx, mx, ay, ly, my, hB4, -⟩ := HR2.out.tp i hil
          obtain ⟨u0, u1, u2, u3⟩ := hB4.ext hx2
          have hI1 : IntKind.i64.wrap (i : Int) = (i : Int) := by rw [IntKind.wrap_i64]; omega
          have hI2 : (0 : Int) ≤ (i : Int) ∧ (i : Int) < (l.length : Int) := ⟨by omega, by omega⟩
          have HTI : Hid (∀ x, InV x (l.take (i + 1)) ↔ InV x (l.take i) ∨ x = (gt l i).1) := fun x => by
            rw [← List.take_append_getElem hil, ← gt_lt hil]
            constructor
            · rintro ⟨t, ht, h⟩
              rcases List.mem_append.1 ht with ht | ht
              · exact .inl ⟨t, ht, h⟩
              · rw [List.mem_singleton.1 ht] at h; exact .inr h.symm
            · rintro (⟨t, ht, h⟩ | h)
              · exact ⟨t, List.mem_append_left _ ht, h⟩
              · exact ⟨_, List.mem_append_right _ List.mem_cons_self, h.symm⟩
          obtain ⟨y, hy⟩ : ∃ y, (gt l i).1 = y := ⟨_, rfl⟩
          rw [hy] at HTI u0
          clear hB4 hy
          obtain ⟨w4, hw4, b4, c4, -, -⟩ := bx1 wr [.int .i64 y, .bool sx, .slice ax lx mx, .slice ay ly my] 173
          have HW := Lib.hid hw4
          have C4 := Lib.hid c4
          clear hw4 c4
          go_upto_region 8 with (fail)
          rw [← HW.out]
          clear HW u0 u1 u2 u3
          have hU4 := Lib.hid (hU.out.ext IntT.ext b4)
          clear hU
          have b5 : Ext w4 (w4.alloc (.cells #[] 3)) := Ext.alloc _ _
          go_wp2_with fail
          go_loopw [8, 9, 29] (fun nx dn t wy => ∃ (m : Nat) (ns : List Int) (d : Bool), t = .int .i64 m ∧ dn = .bool d ∧ m ≤ us.length ∧ Ext w4 wy ∧ Hid (OwnRow 1 IntT 3 w4.heap.size wy nx ns) ∧ Hid (NxI y us m d ns)) (fun _ _ t _ => us.length - (intOf t).toNat)
          case atStart => exact ⟨0, [], false, rfl, rfl, Nat.zero_le _, b5, OwnRow.nilLit _ (Nat.le_refl _), NxI.start _ _⟩
          case round =>
            obtain ⟨m, ns, d, rfl, rfl, hm, hx5, hO, hN⟩ := hrel
            by_cases hml : m < us.length
            · have hd3 : decide ((m : Int) < (us.length : Int)) = true := decide_eq_true (by omega)
              obtain ⟨bU, oU, rfl⟩ := hU4.out.some_atI hml
              have hM1 : IntKind.i64.wrap (m : Int) = (m : Int) := by rw [IntKind.wrap_i64]; omega
              have hM2 : (0 : Int) ≤ (m : Int) ∧ (m : Int) < (us.length : Int) := ⟨by omega, by omega⟩
              have v0 := Ext.cell hx5 (hU4.out.int m hml)
              obtain ⟨u, hu⟩ : ∃ u, us[m] = u := ⟨_, rfl⟩
              rw [hu] at v0
              have HU := Lib.hid hu
              clear hu
              have hnl := hN.out.2.1
              have hdl : d.toNat ≤ 1 := by cases d <;> decide
              have k0 := (C4.out.ext hx5).c1
              by_cases huy : u = y
              · have hb : (u != y) = false := bneF huy
                have HN2 := Lib.hid (NxI.skip hN.out hml HU.out huy)
                cases d with
                | true =>
                  clear huy
                  go_wp2_with fail
                  go_roundw
                  case rel => exact ⟨m + 1, ns, true, by go_num, rfl, by omega, hx5, hO.out, HN2.out⟩
                  case measure => simp [intOf] <;> omega
                | false =>
                  have hdy : decide (y ≤ u) = true := decide_eq_true (by omega)
                  clear huy
                  go_wp2_with (at_builtin; refine append_rowL (y := y) etInt8 (kdI _) (by rfl) _ _ (by rfl) w4.heap.size (by rfl) _ (by rfl) hO.out rfl (show IntT _ _ _ from rfl) (Below.size hx5) (by omega) (by unfold maxLen; omega) ?_; intro v9 w9 o9 b9 g9; have x9 := Below.trans hx5 b9; have k9 := (C4.out.ext (show Ext w4 w9 from x9)).c1)
                  go_roundw
                  case rel => exact ⟨m + 1, _, true, by go_num, rfl, by omega, x9, o9, HN2.out.ins⟩
                  case measure => simp [intOf] <;> omega
              · have hb : (u != y) = true := bneT huy
                have HN2 := Lib.hid (NxI.put hN.out hml HU.out huy)
                have HUY := Lib.hid huy
                clear huy
                cases d with
                | true =>
                  go_wp2_with (at_builtin; refine append_rowL (y := u) etInt8 (kdI _) (by rfl) _ _ (by rfl) w4.heap.size (by rfl) _ (by rfl) hO.out rfl (show IntT _ _ _ from rfl) (Below.size hx5) (by omega) (by unfold maxLen; omega) ?_; intro v9 w9 o9 b9 g9; have x9 := Below.trans hx5 b9)
                  go_roundw
                  case rel => exact ⟨m + 1, _, true, by go_num, rfl, by omega, x9, o9, HN2.out⟩
                  case measure => simp [intOf] <;> omega
                | false =>
                  by_cases hyu : y ≤ u
                  · have hdy : decide (y ≤ u) = true := decide_eq_true hyu
                    have HN3 := Lib.hid (NxI.put hN.out.ins hml HU.out HUY.out)
                    clear hyu
                    go_upto_region 16 with (at_builtin; refine append_rowL (y := y) etInt8 (kdI _) (by rfl) _ _ (by rfl) w4.heap.size (by rfl) _ (by rfl) hO.out rfl (show IntT _ _ _ from rfl) (Below.size hx5) (by omega) (by unfold maxLen; omega) ?_; intro v9 w9 o9 b9 g9; have x9 := Below.trans hx5 b9; have k9 := (C4.out.ext (show Ext w4 w9 from x9)).c1)
                    obtain ⟨ns2, hns2⟩ : ∃ ns2, ns ++ [y] = ns2 := ⟨_, rfl⟩
                    have hl2 : ns2.length ≤ us.length + 2 := by rw [← hns2, List.length_append]; simp; omega
                    rw [hns2] at o9 HN3
                    clear hns2
                    go_wp2_with (at_builtin; refine append_rowL (y := u) etInt8 (kdI _) (by rfl) _ _ (by rfl) w4.heap.size (by rfl) _ (by rfl) o9 rfl (show IntT _ _ _ from rfl) (Below.size x9) (by omega) (by unfold maxLen; omega) ?_; intro v8 w8 o8 b8 g8; have x8 := Below.trans x9 b8)
                    go_roundw
                    case rel => exact ⟨m + 1, _, true, by go_num, rfl, by omega, x8, o8, HN3.out⟩
                    case measure => simp [intOf] <;> omega
                  · have hdy : decide (y ≤ u) = false := decide_eq_false hyu
                    clear hyu
                    go_wp2_with (at_builtin; refine append_rowL (y := u) etInt8 (kdI _) (by rfl) _ _ (by rfl) w4.heap.size (by rfl) _ (by rfl) hO.out rfl (show IntT _ _ _ from rfl) (Below.size hx5) (by omega) (by unfold maxLen; omega) ?_; intro v9 w9 o9 b9 g9; have x9 := Below.trans hx5 b9)
                    go_roundw
                    case rel => exact ⟨m + 1, _, false, by go_num, rfl, by omega, x9, o9, HN2.out⟩
                    case measure => simp [intOf] <;> omega
            · obtain rfl : m = us.length := by omega
              have hd3 : decide ((us.length : Int) < (us.length : Int)) = false := decide_eq_false (by omega)
              have k0 := (C4.out.ext hx5).c1
              have hnl := hN.out.2.1
              cases d with
              | true =>
                have HF := Lib.hid (NxI.fin hN.out)
                obtain ⟨an, kn, rfl, -, -⟩ := hO.out.rd.shape
                go_wp2_with fail
                go_roundw
                case rel => exact ⟨i + 1, ns, by go_num, by omega, Ext.trans hx2 (Ext.trans b4 hx5), hO.out.rd, by have := HF.out.1; omega, HF.out.2.1 hMU.out.1, fun x => by
                  rw [HF.out.2.2 x, hMU.out.2 x, HTI.out x, or_assoc]⟩
                case measure => simp [intOf] <;> omega
              | false =>
                have HF := Lib.hid (NxI.fin hN.out.ins)
                have hdl : (false : Bool).toNat = 0 := rfl
                go_wp2_with (at_builtin; refine append_rowL (y := y) etInt8 (kdI _) (by rfl) _ _ (by rfl) w4.heap.size (by rfl) _ (by rfl) hO.out rfl (show IntT _ _ _ from rfl) (Below.size hx5) (by omega) (by unfold maxLen; omega) ?_; intro v9 w9 o9 b9 g9; have x9 := Below.trans hx5 b9)
                go_roundw
                case rel => exact ⟨i + 1, _, by go_num, by omega, Ext.trans hx2 (Ext.trans b4 x9), o9.rd, by have := HF.out.1; omega, HF.out.2.1 hMU.out.1, fun x => by
                  rw [HF.out.2.2 x, hMU.out.2 x, HTI.out x, or_assoc]⟩
                case measure => simp [intOf] <;> omega
        · obtain rfl : i = l.length := by omega
          have hd2 : decide ((l.length : Int) < (l.length : Int)) = false := decide_eq_false (by omega)
          rw [List.take_length] at hMU
          go_wp2_with fail
          go_roundw
          case rel => exact ⟨j + 1, us, by go_num, by omega, Ext.trans b0r hx2, hU.out, by have := HLT.out; omega, hMU.out.1, fun x => (hMU.out.2 x).trans (HTK.out x).symm⟩
          case measure => simp [intOf] <;> omega
    · obtain rfl : j = es.length := by omega
      have hd : decide ((es.length : Int) < (es.length : Int)) = false := decide_eq_false (by omega)
      rw [List.take_length] at hM
      go_wp2_with fail
      exact hR.out _ _ (Gives.mk hx ⟨vs, hO.out, by omega, hM.out⟩)
theorem r8vars_any {w : World} {v : Value} {es : List (TL × Rat)} (hv : RdRow 4 RdYp w v es) (he : es.length ≤ 1000) (hs : ∀ p ∈ es, p.1.length ≤ 1000) :
    Calls Try.prog 32 #[v] w (Gives w fun v' w' => ∃ vs : List Int, RdRow 1 IntT w' v' vs ∧ vs.length ≤ 10000000 ∧ ∀ x, x ∈ vs ↔ InVs x es) :=
  (r8vars_nd hv he hs).mono fun _ _ ⟨v, e, b, vs, h1, h2, _, h3⟩ => ⟨v, e, b, vs, h1, h2, h3⟩
end Go.Proofs.Ytnbbhpihlcglgaa
