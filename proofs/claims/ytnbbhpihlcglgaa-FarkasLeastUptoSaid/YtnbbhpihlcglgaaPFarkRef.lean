/- farkas.Refutes, atom.Holds -/
import Derived.Test.YtnbbhpihlcglgaaPFarkSum
namespace Go.Proofs.Ytnbbhpihlcglgaa
open Go.RowKit Go.Att

/-- What Refutes says. -/
def RefV (L : List AT) (P : List Rat) (t : Bool) (e : Int) : Prop :=
  if L.length ≠ P.length then t = false ∧ e = 1
  else if (L.zip P).any fbad = true then t = false ∧ e = 4
  else e = 0 ∧ (t = true ↔ (∀ x, fcf (L.zip P) x = 0) ∧ (0 < (fct (L.zip P)).num.sign ∨ (fct (L.zip P)).num.sign = 0 ∧ fst' (L.zip P) = true))
set_option linter.unusedSimpArgs false in
set_option maxHeartbeats 20000000 in
set_option maxRecDepth 100000 in
theorem frefutes_any {w : World} {va vb : Value} {L : List AT} {P : List Rat} (ha : RdRow 5 OwnA w va L) (hb : RdRow 3 (OwnQp 163) w vb P) (hL : ∀ a ∈ L, Smx a.1.1 a.1.2) (hP : ∀ p ∈ P, Sz 20 p) (hn : L.length ≤ 10) :
    Calls Try.prog 57 #[va, vb] w (Gives w fun v' _ => ∃ t e, v' = .tuple #[.bool t, .int .i64 e] ∧ RefV L P t e) := by
  refine via fun R hR => ?_
  have HS := Lib.hid (fsum_any ha hb hL hP hn)
  clear hL hP hn
  obtain ⟨aa, ka, rfl, -, -⟩ := ha.shape
  obtain ⟨ab, kb, rfl, -, -⟩ := hb.shape
  clear ha hb
  go_enter Try.func57, Try.ntmps57
  go_wp2_with fail
  refine HS.out.mono ?_
  rintro e w1 ⟨_, rfl, b1, u, sb, er, rfl, hs⟩
  clear HS
  by_cases hlen : L.length = P.length
  · by_cases hbad : (L.zip P).any fbad = true
    · have HRV : Hid (RefV L P false 4) := by show RefV _ _ _ _; unfold RefV; rw [if_neg (fun h => h hlen), if_pos hbad]; exact ⟨rfl, rfl⟩
      unfold SumR at hs
      rw [if_neg (fun h => h hlen), if_pos hbad] at hs
      obtain ⟨h1, rfl, rfl⟩ := hs
      obtain ⟨a, k, s, b, m, d, b', m', d', rfl, -, -, -⟩ := h1.op
      clear h1 hlen hbad
      go_wp2_with fail
      exact hR.out _ _ (Gives.mk (Ext.trans b1 (Ext.alloc _ _)) ⟨_, _, rfl, HRV.out⟩)
    · unfold SumR at hs
      rw [if_neg (fun h => h hlen), if_neg hbad] at hs
      obtain ⟨l, h1, h2, h3, rfl, rfl, h4⟩ := hs
      have HRV : Hid (∀ t, (t = true ↔ l.length = 0 ∧ (0 < (fct (L.zip P)).num.sign ∨ (fct (L.zip P)).num.sign = 0 ∧ fst' (L.zip P) = true)) → RefV L P t 0) := fun t ht => by
        unfold RefV
        rw [if_neg (fun h => h hlen), if_neg hbad]
        refine ⟨rfl, ht.trans ?_⟩
        rw [form_nil h1]
        constructor
        · rintro ⟨g1, g2⟩
          exact ⟨fun x => (h2 x).symm.trans (g1 x), g2⟩
        · rintro ⟨g1, g2⟩
          exact ⟨fun x => (h2 x).trans (g1 x), g2⟩
      obtain ⟨a, k, s, b, m, d, b', m', d', rfl, -, -, HX⟩ := h4.op
      have HSG : Hid (∀ w', Ext w1 w' → Calls Try.prog 20 #[.agg #[.bool s, .slice b m d, .slice b' m' d']] w' (Gives w' fun v' _ => v' = .int .i64 (fct (L.zip P)).num.sign)) := fun w' x => by
        obtain ⟨_, _, _, _, he, -, h⟩ := HX.out
        simp only [Value.agg.injEq, Array.mk.injEq, List.cons.injEq, and_true] at he
        obtain ⟨rfl, rfl, rfl, rfl⟩ := he
        exact rsign_any (h.rd.ext x)
      clear h1 h2 h3 h4 hlen hbad HX
      generalize (fct (L.zip P)).num.sign = sg at *
      generalize fst' (L.zip P) = st at *
      obtain ⟨w2, hw2, b2, c2, -, -⟩ := bx1 w1 [.slice a l.length k, .bool s, .slice b m d, .slice b' m' d'] 63
      have HW := Lib.hid hw2
      have C2 := Lib.hid c2
      clear hw2 c2
      go_upto_region 2 with (fail)
      rw [← HW.out]
      clear HW
      obtain ⟨k0, k1, k2, k3⟩ := C2.out.c4
      go_wp2_with fail
      refine (HSG.out _ b2).mono ?_
      rintro e w3 ⟨_, rfl, b3, rfl⟩
      clear k0 k1 k2 k3
      obtain ⟨k0, k1, k2, k3⟩ := (C2.out.ext b3).c4
      have b13 := Ext.trans b1 (Ext.trans b2 b3)
      obtain ⟨n, hn⟩ : ∃ n, l.length = n := ⟨_, rfl⟩
      rw [hn] at HRV k0 ⊢
      clear hn C2
      by_cases h0 : n = 0
      · subst h0
        by_cases hs1 : 0 < sg
        · have d1 : decide (0 < sg) = true := decide_eq_true hs1
          go_wp2_with fail
          exact hR.out _ _ (Gives.mk b13 ⟨true, _, rfl, HRV.out true ⟨fun _ => ⟨by first | rfl | trivial, .inl hs1⟩, fun _ => rfl⟩⟩)
        · have d1 : decide (0 < sg) = false := decide_eq_false hs1
          by_cases hs2 : sg = 0
          · have d2 : (sg == 0) = true := beqT hs2
            have HV := Lib.hid (HRV.out st ⟨fun h => ⟨by first | rfl | trivial, .inr ⟨hs2, h⟩⟩, fun h => by
              rcases h.2 with h | h
              · exact absurd h hs1
              · exact h.2⟩)
            clear hs2 hs1
            go_wp2_with fail
            exact hR.out _ _ (Gives.mk b13 ⟨st, _, rfl, HV.out⟩)
          · have d2 : (sg == 0) = false := beqF hs2
            have HV := Lib.hid (HRV.out false ⟨fun h => absurd h (by decide), fun h => by
              rcases h.2 with h | h
              · exact absurd h hs1
              · exact absurd h.1 hs2⟩)
            clear hs2 hs1
            go_wp2_with fail
            exact hR.out _ _ (Gives.mk b13 ⟨false, _, rfl, HV.out⟩)
      · have d0 : ((n : Int) == 0) = false := beqF (by omega)
        have HV := Lib.hid (HRV.out false ⟨fun h => absurd h (by decide), fun h => absurd h.1 h0⟩)
        clear h0
        go_wp2_with fail
        exact hR.out _ _ (Gives.mk b13 ⟨false, _, rfl, HV.out⟩)
  · have HRV : Hid (RefV L P false 1) := by show RefV _ _ _ _; unfold RefV; rw [if_pos hlen]; exact ⟨rfl, rfl⟩
    unfold SumR at hs
    rw [if_pos hlen] at hs
    obtain ⟨h1, rfl, rfl⟩ := hs
    obtain ⟨a, k, s, b, m, d, b', m', d', rfl, -, -, -⟩ := h1.op
    clear h1 hlen
    go_wp2_with fail
    exact hR.out _ _ (Gives.mk (Ext.trans b1 (Ext.alloc _ _)) ⟨_, _, rfl, HRV.out⟩)
end Go.Proofs.Ytnbbhpihlcglgaa
