/- attestlaw08.awake -/
import Derived.Test.YtnbbhpihlcglgaaLinAll
import Derived.Test.YtnbbhpihlcglgaaRatAll
namespace Go.Proofs.Ytnbbhpihlcglgaa
open Go.RowKit Go.Att

theorem cf_single (q : Rat) (x : Int) : cf [((0 : Int), q)] x = if (0 : Int) = x then q else 0 := cf_one _ _
theorem form_single {q : Rat} (hq : q ≠ 0) : FormT [((0 : Int), q)] := FormT.snoc (l := []) FormT.nil (fun u h => by cases h) hq
set_option linter.unusedSimpArgs false in
set_option maxHeartbeats 4000000 in
set_option maxRecDepth 100000 in
theorem awake08 {w : World} : Calls Try.prog 36 #[] w (Gives w fun v' _ => v' = .bool true) := by
  refine via fun R hR => ?_
  have e2 : ((1 : Int) : Rat) + ((1 : Int) : Rat) = ((2 : Int) : Rat) := by decide +kernel
  have e3 : ((2 : Int) : Rat) * ((1 : Int) : Rat) = ((2 : Int) : Rat) := by decide +kernel
  have n2 : ((2 : Int) : Rat) ≠ 0 := by decide +kernel
  have S1 := Sz.int 1 (by omega)
  have S2 := Lib.hid (Sz.int 2 (by omega))
  have HADD : Hid (∀ w va vb, RdX w va [((0 : Int), ((1 : Int) : Rat))] 0 → RdX w vb [((0 : Int), ((1 : Int) : Rat))] 0 → Calls Try.prog 40 #[va, vb] w (Gives w fun v' w' => OwnX w.heap.size w' v' [((0 : Int), ((2 : Int) : Rat))] 0)) := fun w va vb h1 h2 =>
    (ladd_any 2 2 h1 h2 (by intro t ht; simp at ht; subst ht; exact S1) (by intro t ht; simp at ht; subst ht; exact S1) (Sz.zero.le (by decide)) (Sz.zero.le (by decide)) (by decide) (by decide) (by decide)).mono fun _ _ ⟨v, e, b, l', hf, hc, _, _, o⟩ => ⟨v, e, b, by
      have h := FormT.uniq hf (form_single n2) (fun x => by
        rw [hc, cf_single, cf_single]
        split
        · exact e2
        · exact Rat.add_zero 0)
      rw [h, Rat.add_zero] at o
      exact o⟩
  have HSCA : Hid (∀ w va vb, OwnQ 163 0 w va ((2 : Int) : Rat) → RdX w vb [((0 : Int), ((1 : Int) : Rat))] 0 → Calls Try.prog 43 #[va, vb] w (Gives w fun v' w' => OwnX w.heap.size w' v' [((0 : Int), ((2 : Int) : Rat))] 0)) := fun w va vb h1 h2 =>
    (lscale_any 2 2 2 h1 h2 S2.out (by intro t ht; simp at ht; subst ht; exact S1) (Sz.zero.le (by decide)) (by decide) (by decide) (by decide)).mono fun _ _ ⟨v, e, b, l', hf, hc, _, _, o⟩ => ⟨v, e, b, by
      have h := FormT.uniq hf (form_single n2) (fun x => by
        rw [hc, cf_single, cf_single]
        split
        · exact e3
        · exact Rat.mul_zero _)
      rw [h, Rat.mul_zero] at o
      exact o⟩
  have HSAM : Hid (∀ w va vb, RdX w va [((0 : Int), ((2 : Int) : Rat))] 0 → RdX w vb [((0 : Int), ((2 : Int) : Rat))] 0 → Calls Try.prog 37 #[va, vb] w (Gives w fun v' _ => v' = .bool true)) := fun w va vb h1 h2 =>
    (lsame_any 2 2 h1 h2 (by intro t ht; simp at ht; subst ht; exact S2.out) (by intro t ht; simp at ht; subst ht; exact S2.out) (Sz.zero.le (by decide)) (Sz.zero.le (by decide)) (by decide) (by decide) (by decide)).mono fun _ _ ⟨v, e, b, t, o, ht⟩ => ⟨v, e, b, by rw [o, ht.2 ⟨fun _ => rfl, rfl⟩]⟩
  have HI2 : Hid (∀ w, Calls Try.prog 44 #[.int .i64 2] w (Gives w fun v' w' => OwnQ 163 w.heap.size w' v' ((2 : Int) : Rat))) := fun w => rint_any (by omega)
  have HV : Hid (∀ w, Calls Try.prog 49 #[.int .i64 0] w (Gives w fun v' w' => OwnX w.heap.size w' v' [((0 : Int), ((1 : Int) : Rat))] 0)) := fun w => lvar_any
  have HZ : Hid ((((2 : Int) : Rat) - ((2 : Int) : Rat)).num.sign = 0) := by show _ = _; decide +kernel
  clear e2 e3 n2 S1
  generalize ((1 : Int) : Rat) = q1 at *
  generalize ((2 : Int) : Rat) = q2 at *
  go_enter Try.func36, Try.ntmps36
  go_wp2_with fail
  refine (HV.out w).mono ?_
  rintro e w1 ⟨v1, rfl, b1, o1⟩
  have O1 := Lib.hid o1.rd
  clear o1
  go_wp2_with fail
  refine (HV.out w1).mono ?_
  rintro e w2 ⟨v2, rfl, b2, o2⟩
  have O2 := Lib.hid o2.rd
  clear o2
  go_wp2_with fail
  refine (HADD.out w2 _ _ (O1.out.ext b2) O2.out).mono ?_
  rintro e w3 ⟨v3, rfl, b3, o3⟩
  have O3 := Lib.hid o3.rd
  obtain ⟨a, k, s, b, m, d, b', m', d', rfl, -, -, HRW, -⟩ := o3.rd.op
  clear o3
  obtain ⟨bT, oT, rfl⟩ := HRW.out.some_at (i := 0) (by simp)
  obtain ⟨sx, ax, lx, mx, ay, ly, my, hB4, hQ⟩ := HRW.out.tm 0 (by simp)
  have HB4 : Hid (Box4 w3 bT oT (.int .i64 0) (.bool sx) (.slice ax lx mx) (.slice ay ly my)) := by
    have h := hB4
    rwa [Nat.zero_mul, Nat.add_zero] at h
  have HQ : Hid (OwnQ 163 0 w3 (.agg #[.bool sx, .slice ax lx mx, .slice ay ly my]) q2) := hQ
  clear hB4 hQ HRW
  change Hid (RdX w3 (.agg #[.slice (some ⟨bT, oT, none⟩) 1 k, .bool s, .slice b m d, .slice b' m' d']) [((0 : Int), q2)] 0) at O3
  obtain ⟨w4, hw4, b4, c4, -, -⟩ := bx1 w3 [.slice (some ⟨bT, oT, none⟩) 1 k, .bool s, .slice b m d, .slice b' m' d'] 63
  have HW := Lib.hid hw4
  have C4 := Lib.hid c4
  clear hw4 c4
  show _
  go_upto_region 2 with (fail)
  rw [← HW.out]
  clear HW
  have DB := Lib.hid (HB4.out.ext b4)
  have b5 := drew_ext w4
  have XE := b5
  refine wp_region_noPanic ?_
  refine wp_region_held_drew (S := fun w' => (w'.cell? ⟨w3.heap.size, 0, none⟩ = some (.slice (some ⟨bT, oT, none⟩) 1 k) ∧ w'.cell? ⟨w3.heap.size, 1, none⟩ = some (.bool s) ∧ w'.cell? ⟨w3.heap.size, 2, none⟩ = some (.slice b m d) ∧ w'.cell? ⟨w3.heap.size, 3, none⟩ = some (.slice b' m' d')) ∧ (w'.cell? ⟨bT, oT, none⟩ = some (.int .i64 0) ∧ w'.cell? ⟨bT, oT + 1, none⟩ = some (.bool sx) ∧ w'.cell? ⟨bT, oT + 2, none⟩ = some (.slice ax lx mx) ∧ w'.cell? ⟨bT, oT + 3, none⟩ = some (.slice ay ly my))) (by kernel_rfl) (⟨(C4.out.ext XE).c4, DB.out.ext XE⟩) (fun hHeld => ?_)
  refine wpAnyH_take (i := 0) (v := ?_) rfl (by kernel_rfl) (by kernel_rfl) (by kernel_rfl) (fun _ _ _ h => h) (Or.inl ⟨by rfl, fun w0 hSw => ?_⟩) hHeld ?_
  rotate_left
  · (try dsimp only at hSw)
    go_simp
    try with_reducible rfl
  simp only [Act.put, List.getElem_toArray, List.getElem_cons_succ, List.getElem_cons_zero, List.setIfInBounds_toArray, List.set_cons_zero, List.set_cons_succ]
  refine wpAnyH_take (i := 1) (v := ?_) rfl (by kernel_rfl) (by kernel_rfl) (by kernel_rfl) (fun _ _ _ h => h) (Or.inl ⟨by rfl, fun w0 hSw => ?_⟩) hHeld ?_
  rotate_left
  · (try dsimp only at hSw)
    go_simp
    try with_reducible rfl
  simp only [Act.put, List.getElem_toArray, List.getElem_cons_succ, List.getElem_cons_zero, List.setIfInBounds_toArray, List.set_cons_zero, List.set_cons_succ]
  refine wpAnyH_take (i := 2) (v := ?_) rfl (by kernel_rfl) (by kernel_rfl) (by kernel_rfl) (fun _ _ _ h => h) (Or.inl ⟨by rfl, fun w0 hSw => ?_⟩) hHeld ?_
  rotate_left
  · (try dsimp only at hSw)
    go_simp
    try with_reducible rfl
  simp only [Act.put, List.getElem_toArray, List.getElem_cons_succ, List.getElem_cons_zero, List.setIfInBounds_toArray, List.set_cons_zero, List.set_cons_succ]
  refine wpAnyH_take (i := 3) (v := ?_) rfl (by kernel_rfl) (by kernel_rfl) (by kernel_rfl) (fun _ _ _ h => h) (Or.inl ⟨by rfl, fun w0 hSw => ?_⟩) hHeld ?_
  rotate_left
  · (try dsimp only at hSw)
    go_simp
    try with_reducible rfl
  simp only [Act.put, List.getElem_toArray, List.getElem_cons_succ, List.getElem_cons_zero, List.setIfInBounds_toArray, List.set_cons_zero, List.set_cons_succ]
  refine wpAnyH_take (i := 4) (v := ?_) rfl (by kernel_rfl) (by kernel_rfl) (by kernel_rfl) (fun _ _ _ h => h) (Or.inl ⟨by rfl, fun w0 hSw => ?_⟩) hHeld ?_
  rotate_left
  · (try dsimp only at hSw)
    go_simp
    try with_reducible rfl
  simp only [Act.put, List.getElem_toArray, List.getElem_cons_succ, List.getElem_cons_zero, List.setIfInBounds_toArray, List.set_cons_zero, List.set_cons_succ]
  refine wpAnyH_take (i := 5) (v := ?_) rfl (by kernel_rfl) (by kernel_rfl) (by kernel_rfl) (fun _ _ _ h => h) (Or.inl ⟨by rfl, fun w0 hSw => ?_⟩) hHeld ?_
  rotate_left
  · (try dsimp only at hSw)
    go_simp
    try with_reducible rfl
  simp only [Act.put, List.getElem_toArray, List.getElem_cons_succ, List.getElem_cons_zero, List.setIfInBounds_toArray, List.set_cons_zero, List.set_cons_succ]
  refine wpAnyH_take (i := 6) (v := ?_) rfl (by kernel_rfl) (by kernel_rfl) (by kernel_rfl) (fun _ _ _ h => h) (Or.inl ⟨by rfl, fun w0 hSw => ?_⟩) hHeld ?_
  rotate_left
  · (try dsimp only at hSw)
    go_simp
    try with_reducible rfl
  simp only [Act.put, List.getElem_toArray, List.getElem_cons_succ, List.getElem_cons_zero, List.setIfInBounds_toArray, List.set_cons_zero, List.set_cons_succ]
  refine wpAnyH_take (i := 7) (v := ?_) rfl (by kernel_rfl) (by kernel_rfl) (by kernel_rfl) (fun _ _ _ h => h) (Or.inl ⟨by rfl, fun w0 hSw => ?_⟩) hHeld ?_
  rotate_left
  · (try dsimp only at hSw)
    go_simp
    try with_reducible rfl
  simp only [Act.put, List.getElem_toArray, List.getElem_cons_succ, List.getElem_cons_zero, List.setIfInBounds_toArray, List.set_cons_zero, List.set_cons_succ]
  refine wpAnyH_take (i := 8) (v := ?_) rfl (by kernel_rfl) (by kernel_rfl) (by kernel_rfl) (fun _ _ _ h => h) (Or.inl ⟨by rfl, fun w0 hSw => ?_⟩) hHeld ?_
  rotate_left
  · (try dsimp only at hSw)
    go_simp
    try with_reducible rfl
  simp only [Act.put, List.getElem_toArray, List.getElem_cons_succ, List.getElem_cons_zero, List.setIfInBounds_toArray, List.set_cons_zero, List.set_cons_succ]
  refine wpAnyH_take (i := 9) (v := ?_) rfl (by kernel_rfl) (by kernel_rfl) (by kernel_rfl) (fun _ _ _ h => h) (Or.inl ⟨by rfl, fun w0 hSw => ?_⟩) hHeld ?_
  rotate_left
  · (try dsimp only at hSw)
    go_simp
    try with_reducible rfl
  simp only [Act.put, List.getElem_toArray, List.getElem_cons_succ, List.getElem_cons_zero, List.setIfInBounds_toArray, List.set_cons_zero, List.set_cons_succ]
  refine wpAnyH_take (i := 10) (v := ?_) rfl (by kernel_rfl) (by kernel_rfl) (by kernel_rfl) (fun _ _ _ h => h) (Or.inl ⟨by rfl, fun w0 hSw => ?_⟩) hHeld ?_
  rotate_left
  · (try dsimp only at hSw)
    go_simp
    try with_reducible rfl
  simp only [Act.put, List.getElem_toArray, List.getElem_cons_succ, List.getElem_cons_zero, List.setIfInBounds_toArray, List.set_cons_zero, List.set_cons_succ]
  refine wpAnyH_take (i := 11) (v := ?_) rfl (by kernel_rfl) (by kernel_rfl) (by kernel_rfl) (fun _ _ _ h => h) (Or.inl ⟨by rfl, fun w0 hSw => ?_⟩) hHeld ?_
  rotate_left
  · (try dsimp only at hSw)
    go_simp
    try with_reducible rfl
  simp only [Act.put, List.getElem_toArray, List.getElem_cons_succ, List.getElem_cons_zero, List.setIfInBounds_toArray, List.set_cons_zero, List.set_cons_succ]
  refine wpAnyH_take (i := 12) (v := ?_) rfl (by kernel_rfl) (by kernel_rfl) (by kernel_rfl) (fun _ _ _ h => h) (Or.inl ⟨by rfl, fun w0 hSw => ?_⟩) hHeld ?_
  rotate_left
  · (try dsimp only at hSw)
    go_simp
    try with_reducible rfl
  simp only [Act.put, List.getElem_toArray, List.getElem_cons_succ, List.getElem_cons_zero, List.setIfInBounds_toArray, List.set_cons_zero, List.set_cons_succ]
  refine wpAnyH_take (i := 13) (v := ?_) rfl (by kernel_rfl) (by kernel_rfl) (by kernel_rfl) (fun _ _ _ h => h) (Or.inl ⟨by rfl, fun w0 hSw => ?_⟩) hHeld ?_
  rotate_left
  · (try dsimp only at hSw)
    go_simp
    try with_reducible rfl
  simp only [Act.put, List.getElem_toArray, List.getElem_cons_succ, List.getElem_cons_zero, List.setIfInBounds_toArray, List.set_cons_zero, List.set_cons_succ]
  refine wpAnyH_take (i := 14) (v := ?_) rfl (by kernel_rfl) (by kernel_rfl) (by kernel_rfl) (fun _ _ _ h => h) (Or.inl ⟨by rfl, fun w0 hSw => ?_⟩) hHeld ?_
  rotate_left
  · (try dsimp only at hSw)
    go_simp
    try with_reducible rfl
  simp only [Act.put, List.getElem_toArray, List.getElem_cons_succ, List.getElem_cons_zero, List.setIfInBounds_toArray, List.set_cons_zero, List.set_cons_succ]
  refine wpAnyH_take (i := 15) (v := ?_) rfl (by kernel_rfl) (by kernel_rfl) (by kernel_rfl) (fun _ _ _ h => h) (Or.inl ⟨by rfl, fun w0 hSw => ?_⟩) hHeld ?_
  rotate_left
  · (try dsimp only at hSw)
    go_simp
    try with_reducible rfl
  simp only [Act.put, List.getElem_toArray, List.getElem_cons_succ, List.getElem_cons_zero, List.setIfInBounds_toArray, List.set_cons_zero, List.set_cons_succ]
  refine wpAnyH_take (i := 16) (v := ?_) rfl (by kernel_rfl) (by kernel_rfl) (by kernel_rfl) (fun _ _ _ h => h) (Or.inl ⟨by rfl, fun w0 hSw => ?_⟩) hHeld ?_
  rotate_left
  · (try dsimp only at hSw)
    go_simp
    try with_reducible rfl
  simp only [Act.put, List.getElem_toArray, List.getElem_cons_succ, List.getElem_cons_zero, List.setIfInBounds_toArray, List.set_cons_zero, List.set_cons_succ]
  refine wpAnyH_take (i := 17) (v := ?_) rfl (by kernel_rfl) (by kernel_rfl) (by kernel_rfl) (fun _ _ _ h => h) (Or.inl ⟨by rfl, fun w0 hSw => ?_⟩) hHeld ?_
  rotate_left
  · (try dsimp only at hSw)
    go_simp
    try with_reducible rfl
  simp only [Act.put, List.getElem_toArray, List.getElem_cons_succ, List.getElem_cons_zero, List.setIfInBounds_toArray, List.set_cons_zero, List.set_cons_succ]
  refine wpAnyH_ready (rs := [18]) (by kernel_rfl) (by simp) ?_
  refine AllReadyH.cons (o := _) rfl (fun K hK => ?_) AllReadyH.nil
  go_simp
  go_at_call 44; refine (HI2.out _).mono ?_; rintro e w6 ⟨v6, rfl, b6, o6⟩; have O6 := Lib.hid o6; clear o6; (first | have XE := Ext.trans XE b6 | have XE := Ext.trans (Ext.trans XE (Ext.alloc _ _)) b6)
  go_wp2_with fail
  refine hK.out _ _ (⟨(C4.out.ext XE).c4, DB.out.ext XE⟩) (fun hHeld => ?_)
  clear hK K
  try simp only [Act.put, List.getElem_toArray, List.getElem_cons_succ, List.getElem_cons_zero, List.setIfInBounds_toArray, List.set_cons_zero, List.set_cons_succ]
  refine wpAnyH_ready (rs := [19]) (by kernel_rfl) (by simp) ?_
  refine AllReadyH.cons (o := _) rfl (fun K hK => ?_) AllReadyH.nil
  go_simp
  go_at_call 30; refine (HZ.out ▸ rcmp_any (HQ.out.rd.ext (Ext.trans b4 XE)) O6.out.rd (S2.out.le (by decide)) (S2.out.le (by decide))).mono ?_; rintro e w7 ⟨_, rfl, b7, rfl⟩; (first | have XE := Ext.trans XE b7 | have XE := Ext.trans (Ext.trans XE (Ext.alloc _ _)) b7)
  go_wp2_with fail
  refine hK.out _ _ (⟨(C4.out.ext XE).c4, DB.out.ext XE⟩) (fun hHeld => ?_)
  clear hK K
  try simp only [Act.put, List.getElem_toArray, List.getElem_cons_succ, List.getElem_cons_zero, List.setIfInBounds_toArray, List.set_cons_zero, List.set_cons_succ]
  refine wpAnyH_take (i := 20) (v := ?_) rfl (by kernel_rfl) (by kernel_rfl) (by kernel_rfl) (fun _ _ _ h => h) (Or.inl ⟨by rfl, fun w0 hSw => ?_⟩) hHeld ?_
  rotate_left
  · (try dsimp only at hSw)
    go_simp
    try with_reducible rfl
  simp only [Act.put, List.getElem_toArray, List.getElem_cons_succ, List.getElem_cons_zero, List.setIfInBounds_toArray, List.set_cons_zero, List.set_cons_succ]
  refine wpAnyH_take (i := 21) (v := ?_) rfl (by kernel_rfl) (by kernel_rfl) (by kernel_rfl) (fun _ _ _ h => h) (Or.inl ⟨by rfl, fun w0 hSw => ?_⟩) hHeld ?_
  rotate_left
  · (try dsimp only at hSw)
    go_simp
    try with_reducible rfl
  simp only [Act.put, List.getElem_toArray, List.getElem_cons_succ, List.getElem_cons_zero, List.setIfInBounds_toArray, List.set_cons_zero, List.set_cons_succ]
  refine wpAnyH_take (i := 22) (v := ?_) rfl (by kernel_rfl) (by kernel_rfl) (by kernel_rfl) (fun _ _ _ h => h) (Or.inl ⟨by rfl, fun w0 hSw => ?_⟩) hHeld ?_
  rotate_left
  · (try dsimp only at hSw)
    go_simp
    try with_reducible rfl
  simp only [Act.put, List.getElem_toArray, List.getElem_cons_succ, List.getElem_cons_zero, List.setIfInBounds_toArray, List.set_cons_zero, List.set_cons_succ]
  refine wpAnyH_take (i := 23) (v := ?_) rfl (by kernel_rfl) (by kernel_rfl) (by kernel_rfl) (fun _ _ _ h => h) (Or.inl ⟨by rfl, fun w0 hSw => ?_⟩) hHeld ?_
  rotate_left
  · (try dsimp only at hSw)
    go_simp
    try with_reducible rfl
  simp only [Act.put, List.getElem_toArray, List.getElem_cons_succ, List.getElem_cons_zero, List.setIfInBounds_toArray, List.set_cons_zero, List.set_cons_succ]
  refine wpAnyH_ready (rs := [24]) (by kernel_rfl) (by simp) ?_
  refine AllReadyH.cons (o := _) rfl (fun K hK => ?_) AllReadyH.nil
  go_simp
  go_at_call 44; refine (HI2.out _).mono ?_; rintro e w8 ⟨v8, rfl, b8, o8⟩; have O8 := Lib.hid o8; clear o8; (first | have XE := Ext.trans XE b8 | have XE := Ext.trans (Ext.trans XE (Ext.alloc _ _)) b8)
  go_wp2_with fail
  refine hK.out _ _ (⟨(C4.out.ext XE).c4, DB.out.ext XE⟩) (fun hHeld => ?_)
  clear hK K
  try simp only [Act.put, List.getElem_toArray, List.getElem_cons_succ, List.getElem_cons_zero, List.setIfInBounds_toArray, List.set_cons_zero, List.set_cons_succ]
  refine wpAnyH_ready (rs := [25]) (by kernel_rfl) (by simp) ?_
  refine AllReadyH.cons (o := _) rfl (fun K hK => ?_) AllReadyH.nil
  go_simp
  go_at_call 49; refine (HV.out _).mono ?_; rintro e w9 ⟨v9, rfl, b9, o9⟩; have O9 := Lib.hid o9; clear o9; (first | have XE := Ext.trans XE b9 | have XE := Ext.trans (Ext.trans XE (Ext.alloc _ _)) b9)
  go_wp2_with fail
  refine hK.out _ _ (⟨(C4.out.ext XE).c4, DB.out.ext XE⟩) (fun hHeld => ?_)
  clear hK K
  try simp only [Act.put, List.getElem_toArray, List.getElem_cons_succ, List.getElem_cons_zero, List.setIfInBounds_toArray, List.set_cons_zero, List.set_cons_succ]
  refine wpAnyH_ready (rs := [26]) (by kernel_rfl) (by simp) ?_
  refine AllReadyH.cons (o := _) rfl (fun K hK => ?_) AllReadyH.nil
  go_simp
  go_at_call 43; refine (HSCA.out _ _ _ ((O8.out.mono (Nat.zero_le _)).ext b9) O9.out.rd).mono ?_; rintro e w10 ⟨v10, rfl, b10, o10⟩; have O10 := Lib.hid o10; clear o10; (first | have XE := Ext.trans XE b10 | have XE := Ext.trans (Ext.trans XE (Ext.alloc _ _)) b10)
  go_wp2_with fail
  refine hK.out _ _ (⟨(C4.out.ext XE).c4, DB.out.ext XE⟩) (fun hHeld => ?_)
  clear hK K
  try simp only [Act.put, List.getElem_toArray, List.getElem_cons_succ, List.getElem_cons_zero, List.setIfInBounds_toArray, List.set_cons_zero, List.set_cons_succ]
  refine wpAnyH_ready (rs := [27]) (by kernel_rfl) (by simp) ?_
  refine AllReadyH.cons (o := _) rfl (fun K hK => ?_) AllReadyH.nil
  go_simp
  go_at_call 37; refine (HSAM.out _ _ _ (O3.out.ext (Ext.trans b4 XE)) O10.out.rd).mono ?_; rintro e w11 ⟨_, rfl, b11, rfl⟩; (first | have XE := Ext.trans XE b11 | have XE := Ext.trans (Ext.trans XE (Ext.alloc _ _)) b11)
  go_wp2_with fail
  refine hK.out _ _ (⟨(C4.out.ext XE).c4, DB.out.ext XE⟩) (fun hHeld => ?_)
  clear hK K
  try simp only [Act.put, List.getElem_toArray, List.getElem_cons_succ, List.getElem_cons_zero, List.setIfInBounds_toArray, List.set_cons_zero, List.set_cons_succ]
  refine wpAnyH_take (i := 28) (v := ?_) rfl (by kernel_rfl) (by kernel_rfl) (by kernel_rfl) (fun _ _ _ h => h) (Or.inl ⟨by rfl, fun w0 hSw => ?_⟩) hHeld ?_
  rotate_left
  · (try dsimp only at hSw)
    go_simp
    try with_reducible rfl
  simp only [Act.put, List.getElem_toArray, List.getElem_cons_succ, List.getElem_cons_zero, List.setIfInBounds_toArray, List.set_cons_zero, List.set_cons_succ]
  refine wpAnyH_take (i := 29) (v := ?_) rfl (by kernel_rfl) (by kernel_rfl) (by kernel_rfl) (fun _ _ _ h => h) (Or.inl ⟨by rfl, fun w0 hSw => ?_⟩) hHeld ?_
  rotate_left
  · (try dsimp only at hSw)
    go_simp
    try with_reducible rfl
  simp only [Act.put, List.getElem_toArray, List.getElem_cons_succ, List.getElem_cons_zero, List.setIfInBounds_toArray, List.set_cons_zero, List.set_cons_succ]
  refine wpAnyH_done (by kernel_rfl) ?_ _
  refine NoPanic.normal ?_
  go_wp2_with fail
  exact hR.out _ _ (Gives.mk (Ext.trans b1 (Ext.trans b2 (Ext.trans b3 (Ext.trans b4 XE)))) rfl)
end Go.Proofs.Ytnbbhpihlcglgaa
