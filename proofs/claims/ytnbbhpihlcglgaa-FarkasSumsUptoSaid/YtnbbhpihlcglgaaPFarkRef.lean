/- farkas.Refutes, atom.Holds -/
import Derived.Test.YtnbbhpihlcglgaaPFarkSum
namespace Go.Proofs.Ytnbbhpihlcglgaa
open Go.RowKit Go.Att

/-- What Refutes says. -/
def RefV (L : List AT) (P : List Rat) (t : Bool) (e : Int) : Prop :=
  if L.length ≠ P.length then t = false ∧ e = 1
  else if (L.zip P).any fbad = true then t = false ∧ e = 4
  else e = 0 ∧ (t = true ↔ (∀ x, fcf (L.zip P) x = 0) ∧ (0 < (fct (L.zip P)).num.sign ∨ (fct (L.zip P)).num.sign = 0 ∧ fst' (L.zip P) = true))
set_option linter.unusedSimpArgs false in
set_option maxHeartbeats 20000000 in
set_option maxRecDepth 100000 in
theorem frefutes_any {w : World} {va vb : Value} {L : List AT} {P : List Rat} (ha : RdRow 5 OwnA w va L) (hb : RdRow 3 (OwnQp 163) w vb P) (hL : ∀ a ∈ L, Smx a.1.1 a.1.2) (hP : ∀ p ∈ P, Sz 20 p) (hn : L.length ≤ 10) :
    Calls Try.prog 57 #[va, vb] w (Gives w fun v' _ => ∃ t e, v' = .tuple #[.bool t, .int .i64 e] ∧ RefV L P t e) := by
  refine via fun R hR => ?_
  have HS := Lib.hid (fsum_any ha hb hL hP hn)
  clear hL hP hn
  obtain ⟨aa, ka, rfl, -, -⟩ := ha.shape
  obtain ⟨ab, kb, rfl, -, -⟩ := hb.shape
  clear ha hb
  go_enter Try.func57, Try.ntmps57
  go_wp2_with fail
  refine HS.out.mono ?_
  rintro e w1 ⟨_, rfl, b1, u, sb, er, rfl, hs⟩
  clear HS
  by_cases hlen : L.length = P.length
  · by_cases hbad : (L.zip P).any fbad = true
    · have HRV : Hid (RefV L P false 4) := by show RefV _ _ _ _; unfold RefV; rw [if_neg (fun h => h hlen), if_pos hbad]; exact ⟨rfl, rfl⟩
      unfold SumR at hs
      rw [if_neg (fun h => h hlen), if_pos hbad] at hs
      obtain ⟨h1, rfl, rfl⟩ := hs
      obtain ⟨a, k, s, b, m, d, b', m', d', rfl, -, -, -⟩ := h1.op
      clear h1 hlen hbad
      go_wp2_with fail
      exact hR.out _ _ (Gives.mk (Ext.trans b1 (Ext.alloc _ _)) ⟨_, _, rfl, HRV.out⟩)
    · unfold SumR at hs
      rw [if_neg (fun h => h hlen), if_neg hbad] at hs
      obtain ⟨l, h1, h2, h3, rfl, rfl, h4⟩ := hs
      have HRV : Hid (∀ t, (t = true ↔ l.length = 0 ∧ (0 < (fct (L.zip P)).num.sign ∨ (fct (L.zip P)).num.sign = 0 ∧ fst' (L.zip P) = true)) → RefV L P t 0) := fun t ht => by
        unfold RefV
        rw [if_neg (fun h => h hlen), if_neg hbad]
        refine ⟨rfl, ht.trans ?_⟩
        rw [form_nil h1]
        constructor
        · rintro ⟨g1, g2⟩
          exact ⟨fun x => (h2 x).symm.trans (g1 x), g2⟩
        · rintro ⟨g1, g2⟩
          exact ⟨fun x => (h2 x).trans (g1 x), g2⟩
      obtain ⟨a, k, s, b, m, d, b', m', d', rfl, -, -, HX⟩ := h4.op
      have HSG : Hid (∀ w', Ext w1 w' → Calls Try.prog 20 #[.agg #[.bool s, .slice b m d, .slice b' m' d']] w' (Gives w' fun v' _ => v' = .int .i64 (fct (L.zip P)).num.sign)) := fun w' x => by
        obtain ⟨_, _, _, _, he, -, h⟩ := HX.out
        simp only [Value.agg.injEq, Array.mk.injEq, List.cons.injEq, and_true] at he
        obtain ⟨rfl, rfl, rfl, rfl⟩ := he
        exact rsign_any (h.rd.ext x)
      clear h1 h2 h3 h4 hlen hbad HX
      generalize (fct (L.zip P)).num.sign = sg at *
      generalize fst' (L.zip P) = st at *
      obtain ⟨w2, hw2, b2, c2, -, -⟩ := bx1 w1 [.slice a l.length k, .bool s, .slice b m d, .slice b' m' d'] 63
      have HW := Lib.hid hw2
      have C2 := Lib.hid c2
      clear hw2 c2
      go_upto_region 2 with (fail)
      rw [← HW.out]
      clear HW
      obtain ⟨k0, k1, k2, k3⟩ := C2.out.c4
      go_wp2_with fail
      refine (HSG.out _ b2).mono ?_
      rintro e w3 ⟨_, rfl, b3, rfl⟩
      clear k0 k1 k2 k3
      obtain ⟨k0, k1, k2, k3⟩ := (C2.out.ext b3).c4
      have b13 := Ext.trans b1 (Ext.trans b2 b3)
      obtain ⟨n, hn⟩ : ∃ n, l.length = n := ⟨_, rfl⟩
      rw [hn] at HRV k0 ⊢
      clear hn C2
      by_cases h0 : n = 0
      · subst h0
        by_cases hs1 : 0 < sg
        · have d1 : decide (0 < sg) = true := decide_eq_true hs1
          go_wp2_with fail
          exact hR.out _ _ (Gives.mk b13 ⟨true, _, rfl, HRV.out true ⟨fun _ => ⟨by first | rfl | trivial, .inl hs1⟩, fun _ => rfl⟩⟩)
        · have d1 : decide (0 < sg) = false := decide_eq_false hs1
          by_cases hs2 : sg = 0
          · have d2 : (sg == 0) = true := beqT hs2
            have HV := Lib.hid (HRV.out st ⟨fun h => ⟨by first | rfl | trivial, .inr ⟨hs2, h⟩⟩, fun h => by
              rcases h.2 with h | h
              · exact absurd h hs1
              · exact h.2⟩)
            clear hs2 hs1
            go_wp2_with fail
            exact hR.out _ _ (Gives.mk b13 ⟨st, _, rfl, HV.out⟩)
          · have d2 : (sg == 0) = false := beqF hs2
            have HV := Lib.hid (HRV.out false ⟨fun h => absurd h (by decide), fun h => by
              rcases h.2 with h | h
              · exact absurd h hs1
              · exact absurd h.1 hs2⟩)
            clear hs2 hs1
            go_wp2_with fail
            exact hR.out _ _ (Gives.mk b13 ⟨false, _, rfl, HV.out⟩)
      · have d0 : ((n : Int) == 0) = false := beqF (by omega)
        have HV := Lib.hid (HRV.out false ⟨fun h => absurd h (by decide), fun h => absurd h.1 h0⟩)
        clear h0
        go_wp2_with fail
        exact hR.out _ _ (Gives.mk b13 ⟨false, _, rfl, HV.out⟩)
  · have HRV : Hid (RefV L P false 1) := by show RefV _ _ _ _; unfold RefV; rw [if_pos hlen]; exact ⟨rfl, rfl⟩
    unfold SumR at hs
    rw [if_pos hlen] at hs
    obtain ⟨h1, rfl, rfl⟩ := hs
    obtain ⟨a, k, s, b, m, d, b', m', d', rfl, -, -, -⟩ := h1.op
    clear h1 hlen
    go_wp2_with fail
    exact hR.out _ _ (Gives.mk (Ext.trans b1 (Ext.alloc _ _)) ⟨_, _, rfl, HRV.out⟩)
/-- Does it hold there? -/
def holdA (p : AT) (P : List Rat) : Bool := says p.2 (p.1.2 + smv (cf p.1.1) P 0)
set_option linter.unusedSimpArgs false in
set_option maxHeartbeats 20000000 in
set_option maxRecDepth 100000 in
theorem holds9_any {w : World} {va vb : Value} {p : AT} {P : List Rat} (ha : OwnA w va p) (hb : RdRow 3 (OwnQp 163) w vb P) (hs : Smx p.1.1 p.1.2) (hP : ∀ q ∈ P, Sz 20 q) :
    Calls Try.prog 64 #[va, vb] w (Gives w fun v' _ => v' = .tuple #[.bool (if 1 ≤ p.2 ∧ p.2 ≤ 3 then holdA p P else false), .int .i64 (chk p.2)]) := by
  refine via fun R hR => ?_
  have HA := Lib.hid ha
  obtain ⟨a, k, s, b, m, d, b', m', d', rfl, HX⟩ := ha.op
  have HCK : Hid (∀ w', Ext w w' → Calls Try.prog 107 #[.agg #[.slice a p.1.1.length k, .bool s, .slice b m d, .slice b' m' d', .int .i64 p.2]] w' (Gives w' fun v' _ => v' = .int .i64 (chk p.2))) := fun w' x => check9_any (HA.out.ext x)
  have HEV : Hid (∀ w', Ext w w' → Calls Try.prog 52 #[.agg #[.slice a p.1.1.length k, .bool s, .slice b m d, .slice b' m' d'], vb] w' (Gives w' fun v' w' => OwnQ 163 0 w' v' (p.1.2 + smv (cf p.1.1) P 0))) := fun w' x => by
    rw [← tv_smv]
    exact leval_any 8 20 (HX.out.rd.ext x) (hb.ext OwnQ.ext x) hs.2.1 hs.2.2 hP (by have := hs.1; omega) (by decide)
  obtain ⟨ab, kb, rfl, -, -⟩ := hb.shape
  unfold holdA at hR
  clear ha hb hs hP HA HX
  generalize p.1.2 + smv (cf p.1.1) P 0 = val at *
  generalize p.1.1.length = n at *
  generalize p.2 = op at *
  obtain ⟨w1, hw1, b1, c1, -, -⟩ := bx1 w [.slice a n k, .bool s, .slice b m d, .slice b' m' d', .int .i64 op] 111
  have HW := Lib.hid hw1
  have C1 := Lib.hid c1
  clear hw1 c1
  go_enter Try.func64, Try.ntmps64
  go_upto_region 1 with (fail)
  rw [← HW.out]
  clear HW
  obtain ⟨k0, k1, k2, k3, k4⟩ := C1.out.c5
  go_wp2_with fail
  refine (HCK.out _ b1).mono ?_
  rintro e w2 ⟨_, rfl, b2, rfl⟩
  clear k0 k1 k2 k3 k4
  have b12 := Ext.trans b1 b2
  dsimp only
  by_cases hop : 1 ≤ op ∧ op ≤ 3
  · have hc : chk op = 0 := if_pos hop
    rw [if_pos hop, hc] at hR
    rw [hc]
    clear hc hop
    have D1 := Lib.hid (C1.out.ext b2)
    go_upto_region 4 with (fail)
    have b3 := drew_ext w2
    have XE := b3
    refine wp_region_noPanic ?_
    refine wp_region_held_drew (S := fun w' => w'.cell? ⟨w.heap.size, 0, none⟩ = some (.slice a n k) ∧ w'.cell? ⟨w.heap.size, 1, none⟩ = some (.bool s) ∧ w'.cell? ⟨w.heap.size, 2, none⟩ = some (.slice b m d) ∧ w'.cell? ⟨w.heap.size, 3, none⟩ = some (.slice b' m' d') ∧ w'.cell? ⟨w.heap.size, 4, none⟩ = some (.int .i64 op)) (by kernel_rfl) ((D1.out.ext XE).c5) (fun hHeld => ?_)
    refine wpAnyH_take (i := 0) (v := ?_) rfl (by kernel_rfl) (by kernel_rfl) (by kernel_rfl) (fun _ _ _ h => h) (Or.inl ⟨by rfl, fun w0 hSw => ?_⟩) hHeld ?_
    rotate_left
    · (try dsimp only at hSw)
      go_simp
      try with_reducible rfl
    simp only [Act.put, List.getElem_toArray, List.getElem_cons_succ, List.getElem_cons_zero, List.setIfInBounds_toArray, List.set_cons_zero, List.set_cons_succ]
    refine wpAnyH_take (i := 1) (v := ?_) rfl (by kernel_rfl) (by kernel_rfl) (by kernel_rfl) (fun _ _ _ h => h) (Or.inl ⟨by rfl, fun w0 hSw => ?_⟩) hHeld ?_
    rotate_left
    · (try dsimp only at hSw)
      go_simp
      try with_reducible rfl
    simp only [Act.put, List.getElem_toArray, List.getElem_cons_succ, List.getElem_cons_zero, List.setIfInBounds_toArray, List.set_cons_zero, List.set_cons_succ]
    refine wpAnyH_take (i := 2) (v := ?_) rfl (by kernel_rfl) (by kernel_rfl) (by kernel_rfl) (fun _ _ _ h => h) (Or.inl ⟨by rfl, fun w0 hSw => ?_⟩) hHeld ?_
    rotate_left
    · (try dsimp only at hSw)
      go_simp
      try with_reducible rfl
    simp only [Act.put, List.getElem_toArray, List.getElem_cons_succ, List.getElem_cons_zero, List.setIfInBounds_toArray, List.set_cons_zero, List.set_cons_succ]
    refine wpAnyH_take (i := 3) (v := ?_) rfl (by kernel_rfl) (by kernel_rfl) (by kernel_rfl) (fun _ _ _ h => h) (Or.inl ⟨by rfl, fun w0 hSw => ?_⟩) hHeld ?_
    rotate_left
    · (try dsimp only at hSw)
      go_simp
      try with_reducible rfl
    simp only [Act.put, List.getElem_toArray, List.getElem_cons_succ, List.getElem_cons_zero, List.setIfInBounds_toArray, List.set_cons_zero, List.set_cons_succ]
    refine wpAnyH_take (i := 4) (v := ?_) rfl (by kernel_rfl) (by kernel_rfl) (by kernel_rfl) (fun _ _ _ h => h) (Or.inl ⟨by rfl, fun w0 hSw => ?_⟩) hHeld ?_
    rotate_left
    · (try dsimp only at hSw)
      go_simp
      try with_reducible rfl
    simp only [Act.put, List.getElem_toArray, List.getElem_cons_succ, List.getElem_cons_zero, List.setIfInBounds_toArray, List.set_cons_zero, List.set_cons_succ]
    refine wpAnyH_ready (rs := [5]) (by kernel_rfl) (by simp) ?_
    refine AllReadyH.cons (o := _) rfl (fun K hK => ?_) AllReadyH.nil
    go_simp
    go_at_call 52; refine (HEV.out _ (Ext.trans b12 XE)).mono ?_; rintro e w4 ⟨v4, rfl, b4, o4⟩; have O4 := Lib.hid o4; clear o4; (first | have XE := Ext.trans XE b4 | have XE := Ext.trans (Ext.trans XE (Ext.alloc _ _)) b4)
    go_wp2_with fail
    refine hK.out _ _ ((D1.out.ext XE).c5) (fun hHeld => ?_)
    clear hK K
    try simp only [Act.put, List.getElem_toArray, List.getElem_cons_succ, List.getElem_cons_zero, List.setIfInBounds_toArray, List.set_cons_zero, List.set_cons_succ]
    refine wpAnyH_ready (rs := [6]) (by kernel_rfl) (by simp) ?_
    refine AllReadyH.cons (o := _) rfl (fun K hK => ?_) AllReadyH.nil
    go_simp
    go_at_call 112; refine (says_any O4.out).mono ?_; rintro e w5 ⟨_, rfl, b5, rfl⟩; (first | have XE := Ext.trans XE b5 | have XE := Ext.trans (Ext.trans XE (Ext.alloc _ _)) b5)
    go_wp2_with fail
    refine hK.out _ _ ((D1.out.ext XE).c5) (fun hHeld => ?_)
    clear hK K
    try simp only [Act.put, List.getElem_toArray, List.getElem_cons_succ, List.getElem_cons_zero, List.setIfInBounds_toArray, List.set_cons_zero, List.set_cons_succ]
    refine wpAnyH_take (i := 7) (v := ?_) rfl (by kernel_rfl) (by kernel_rfl) (by kernel_rfl) (fun _ _ _ h => h) (Or.inl ⟨by rfl, fun w0 hSw => ?_⟩) hHeld ?_
    rotate_left
    · (try dsimp only at hSw)
      go_simp
      try with_reducible rfl
    simp only [Act.put, List.getElem_toArray, List.getElem_cons_succ, List.getElem_cons_zero, List.setIfInBounds_toArray, List.set_cons_zero, List.set_cons_succ]
    refine wpAnyH_take (i := 8) (v := ?_) rfl (by kernel_rfl) (by kernel_rfl) (by kernel_rfl) (fun _ _ _ h => h) (Or.inl ⟨by rfl, fun w0 hSw => ?_⟩) hHeld ?_
    rotate_left
    · (try dsimp only at hSw)
      go_simp
      try with_reducible rfl
    simp only [Act.put, List.getElem_toArray, List.getElem_cons_succ, List.getElem_cons_zero, List.setIfInBounds_toArray, List.set_cons_zero, List.set_cons_succ]
    refine wpAnyH_done (by kernel_rfl) ?_ _
    refine NoPanic.normal ?_
    go_wp2_with fail
    exact hR.out _ _ (Gives.mk (Ext.trans b12 XE) rfl)
  · have hc : chk op = 4 := if_neg hop
    rw [if_neg hop, hc] at hR
    rw [hc]
    clear hc hop
    go_wp2_with fail
    exact hR.out _ _ (Gives.mk b12 rfl)
end Go.Proofs.Ytnbbhpihlcglgaa
