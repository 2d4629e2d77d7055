/- RatMakes where nought does not stand below the bar: the walk -/
import Derived.Test.YtjnbhinjpinkaaaFrameN
import Derived.Test.YtjnbhinjpinkaaaPRatMake
import Derived.Test.YtjnbhinjpinkaaaPRef5Mul
import Derived.Test.YtjnbhinjpinkaaaPRef5Inv
import Derived.Test.YtjnbhinjpinkaaaPRef5Int
import Derived.Test.YtjnbhinjpinkaaaPFew05
import Derived.Test.YtjnbhinjpinkaaaRefAll
import Derived.Test.YtjnbhinjpinkaaaPAwake05
import Derived.Test.YtjnbhinjpinkaaaPIs05
import Derived.Test.YtjnbhinjpinkaaaPRatSign
import Derived.Test.YtjnbhinjpinkaaaLRatMakesS
namespace Go.Proofs.Ytjnbhinjpinkaaa.ratMakes
open Go.ChangeShapes Go.WideShapes Go.ChangeAt Go.RowKit Go.Att

set_option maxHeartbeats 8000000 in
set_option maxRecDepth 100000 in
set_option linter.unusedSimpArgs false in
theorem walkN {w : World} {v : Value} {s : Bool} {xs ys : List Nat} {i j : Int} (hv : RdN w v s xs ys) (hx : xs.length ≤ 1048576) (hy : ys.length ≤ 1048576) (hi : -9223372036854775808 ≤ i ∧ i ≤ 9223372036854775807) (hj : -9223372036854775808 ≤ j ∧ j ≤ 9223372036854775807) (h0 : nv (ys.take 8) ≠ 0) :
    Calls Try.prog 4 #[v, .int .i64 i, .int .i64 j] w (Gives w fun v' _ => v' = .bool true) := by
  have SR : Hid (Sz 8 (mkQ s (nv (xs.take 8)) (nv (ys.take 8)))) := by obtain ⟨_, _, _, h1, h2⟩ := hv; exact Sz.of h0 (take8_len h1.2) (take8_len h2.2)
  generalize hr : mkQ s (nv (xs.take 8)) (nv (ys.take 8)) = r at SR
  have HRR := Lib.hid hr
  clear hr
  refine via fun R hR => ?_
  have hl4 : (ys.take 8).length ≤ 8 := by rw [List.length_take]; omega
  have hl3 : (xs.take 8).length ≤ 8 := by rw [List.length_take]; omega
  obtain ⟨a, b, rfl, ha, hb⟩ := hv
  have HA := Lib.hid ha
  have HB := Lib.hid hb
  clear ha hb
  obtain ⟨w1, hw1, b1, c1, -, z1⟩ := box1 w (.bool s) a b 34
  have C1 := Lib.hid c1
  have HW := Lib.hid hw1
  have hsq : Hid (w.heap.size < w1.heap.size) := by show _ < _; omega
  clear c1 hw1
  go_enter Try.func4, Try.ntmps4
  go_upto_region 1 with (fail)
  rw [← HW.out]
  clear HW z1
  have H0 := Lib.hid h0
  have hlz : (((bitsOf (nv (ys.take 8))).length : Int) == 0) = false := beqF (by have := bits_len_pos.2 (show 0 < nv (ys.take 8) by omega); omega)
  clear h0
  go_cut [7, 8] (fun s7 s8 wx => s8 = .bool true ∧ Ext w1 wx ∧ ∃ B an cn ad cd, s7 = .pointer (some ⟨B, 0, none⟩) ∧ Hid (Box3 wx B (.bool (decide (r.num < 0))) (.slice an (limbs r.num.natAbs).length cn) (.slice ad (dens r.den).length cd)) ∧ Hid (RdL wx (.slice an (limbs r.num.natAbs).length cn) (limbs r.num.natAbs)) ∧ Hid (RdL wx (.slice ad (dens r.den).length cd) (dens r.den)))
  case first =>
    have b2 := drew_ext w1
    refine wp_region_noPanic ?_
    refine wp_region_held_drew (S := fun w' => w'.cell? ⟨w.heap.size, 0, none⟩ = some (.bool s) ∧ w'.cell? ⟨w.heap.size, 1, none⟩ = some (a) ∧ w'.cell? ⟨w.heap.size, 2, none⟩ = some (b)) (by kernel_rfl) (C1.out.ext (by repeat (first | exact Ext.refl _ | refine Ext.trans ?_ (Ext.alloc _ _) | refine Ext.trans ?_ (drew_ext _) | refine Ext.trans ?_ ba | refine Ext.trans ?_ b20 | refine Ext.trans ?_ b19 | refine Ext.trans ?_ b18 | refine Ext.trans ?_ b17 | refine Ext.trans ?_ b16 | refine Ext.trans ?_ b15 | refine Ext.trans ?_ b14 | refine Ext.trans ?_ b13 | refine Ext.trans ?_ b12 | refine Ext.trans ?_ b11 | refine Ext.trans ?_ b10 | refine Ext.trans ?_ b9 | refine Ext.trans ?_ b8 | refine Ext.trans ?_ b7 | refine Ext.trans ?_ b6 | refine Ext.trans ?_ b5 | refine Ext.trans ?_ b4 | refine Ext.trans ?_ b3 | refine Ext.trans ?_ b2 | refine Ext.trans ?_ b1))) (fun hHeld => ?_)
    refine wpAnyH_take (i := 0) (v := ?_) rfl (by kernel_rfl) (by kernel_rfl) (by kernel_rfl) (fun _ _ _ h => h) (Or.inl ⟨by rfl, fun w0 hSw => ?_⟩) hHeld ?_
    rotate_left
    · (try dsimp only at hSw)
      go_simp
      try with_reducible rfl
    simp only [Act.put, List.getElem_toArray, List.getElem_cons_succ, List.getElem_cons_zero, List.setIfInBounds_toArray, List.set_cons_zero, List.set_cons_succ]
    refine wpAnyH_take (i := 1) (v := ?_) rfl (by kernel_rfl) (by kernel_rfl) (by kernel_rfl) (fun _ _ _ h => h) (Or.inl ⟨by rfl, fun w0 hSw => ?_⟩) hHeld ?_
    rotate_left
    · (try dsimp only at hSw)
      go_simp
      try with_reducible rfl
    simp only [Act.put, List.getElem_toArray, List.getElem_cons_succ, List.getElem_cons_zero, List.setIfInBounds_toArray, List.set_cons_zero, List.set_cons_succ]
    refine wpAnyH_take (i := 2) (v := ?_) rfl (by kernel_rfl) (by kernel_rfl) (by kernel_rfl) (fun _ _ _ h => h) (Or.inl ⟨by rfl, fun w0 hSw => ?_⟩) hHeld ?_
    rotate_left
    · (try dsimp only at hSw)
      go_simp
      try with_reducible rfl
    simp only [Act.put, List.getElem_toArray, List.getElem_cons_succ, List.getElem_cons_zero, List.setIfInBounds_toArray, List.set_cons_zero, List.set_cons_succ]
    refine wpAnyH_take (i := 3) (v := ?_) rfl (by kernel_rfl) (by kernel_rfl) (by kernel_rfl) (fun _ _ _ h => h) (Or.inl ⟨by rfl, fun w0 hSw => ?_⟩) hHeld ?_
    rotate_left
    · (try dsimp only at hSw)
      go_simp
      try with_reducible rfl
    simp only [Act.put, List.getElem_toArray, List.getElem_cons_succ, List.getElem_cons_zero, List.setIfInBounds_toArray, List.set_cons_zero, List.set_cons_succ]
    refine wpAnyH_take (i := 5) (v := ?_) rfl (by kernel_rfl) (by kernel_rfl) (by kernel_rfl) (fun _ _ _ h => h) (Or.inl ⟨by rfl, fun w0 hSw => ?_⟩) hHeld ?_
    rotate_left
    · (try dsimp only at hSw)
      go_simp
      try with_reducible rfl
    simp only [Act.put, List.getElem_toArray, List.getElem_cons_succ, List.getElem_cons_zero, List.setIfInBounds_toArray, List.set_cons_zero, List.set_cons_succ]
    refine wpAnyH_take (i := 6) (v := ?_) rfl (by kernel_rfl) (by kernel_rfl) (by kernel_rfl) (fun _ _ _ h => h) (Or.inl ⟨by rfl, fun w0 hSw => ?_⟩) hHeld ?_
    rotate_left
    · (try dsimp only at hSw)
      go_simp
      try with_reducible rfl
    simp only [Act.put, List.getElem_toArray, List.getElem_cons_succ, List.getElem_cons_zero, List.setIfInBounds_toArray, List.set_cons_zero, List.set_cons_succ]
    refine wpAnyH_ready (rs := [4, 12]) (by kernel_rfl) (by simp) ?_
    refine AllReadyH.cons (o := _) rfl (fun K hK => ?_) (AllReadyH.cons (o := _) rfl (fun K hK => ?_) AllReadyH.nil)
    · skip
      go_simp
      go_at_call 20; refine (few5_any (HA.out.ext (by repeat (first | exact Ext.refl _ | refine Ext.trans ?_ (Ext.alloc _ _) | refine Ext.trans ?_ (drew_ext _) | refine Ext.trans ?_ ba | refine Ext.trans ?_ b20 | refine Ext.trans ?_ b19 | refine Ext.trans ?_ b18 | refine Ext.trans ?_ b17 | refine Ext.trans ?_ b16 | refine Ext.trans ?_ b15 | refine Ext.trans ?_ b14 | refine Ext.trans ?_ b13 | refine Ext.trans ?_ b12 | refine Ext.trans ?_ b11 | refine Ext.trans ?_ b10 | refine Ext.trans ?_ b9 | refine Ext.trans ?_ b8 | refine Ext.trans ?_ b7 | refine Ext.trans ?_ b6 | refine Ext.trans ?_ b5 | refine Ext.trans ?_ b4 | refine Ext.trans ?_ b3 | refine Ext.trans ?_ b2 | refine Ext.trans ?_ b1))) (by omega)).mono ?_; rintro e w3 ⟨v3, rfl, b3, o3⟩; have O3 := Lib.hid o3; clear o3
      go_wp2_with fail
      refine hK.out _ _ (C1.out.ext (by repeat (first | exact Ext.refl _ | refine Ext.trans ?_ (Ext.alloc _ _) | refine Ext.trans ?_ (drew_ext _) | refine Ext.trans ?_ ba | refine Ext.trans ?_ b20 | refine Ext.trans ?_ b19 | refine Ext.trans ?_ b18 | refine Ext.trans ?_ b17 | refine Ext.trans ?_ b16 | refine Ext.trans ?_ b15 | refine Ext.trans ?_ b14 | refine Ext.trans ?_ b13 | refine Ext.trans ?_ b12 | refine Ext.trans ?_ b11 | refine Ext.trans ?_ b10 | refine Ext.trans ?_ b9 | refine Ext.trans ?_ b8 | refine Ext.trans ?_ b7 | refine Ext.trans ?_ b6 | refine Ext.trans ?_ b5 | refine Ext.trans ?_ b4 | refine Ext.trans ?_ b3 | refine Ext.trans ?_ b2 | refine Ext.trans ?_ b1))) (fun hHeld => ?_)
      clear hK K
      try simp only [Act.put, List.getElem_toArray, List.getElem_cons_succ, List.getElem_cons_zero, List.setIfInBounds_toArray, List.set_cons_zero, List.set_cons_succ]
      refine wpAnyH_ready (rs := [7, 12]) (by kernel_rfl) (by simp) ?_
      refine AllReadyH.cons (o := _) rfl (fun K hK => ?_) (AllReadyH.cons (o := _) rfl (fun K hK => ?_) AllReadyH.nil)
      · skip
        go_simp
        go_at_call 20; refine (few5_any (HB.out.ext (by repeat (first | exact Ext.refl _ | refine Ext.trans ?_ (Ext.alloc _ _) | refine Ext.trans ?_ (drew_ext _) | refine Ext.trans ?_ ba | refine Ext.trans ?_ b20 | refine Ext.trans ?_ b19 | refine Ext.trans ?_ b18 | refine Ext.trans ?_ b17 | refine Ext.trans ?_ b16 | refine Ext.trans ?_ b15 | refine Ext.trans ?_ b14 | refine Ext.trans ?_ b13 | refine Ext.trans ?_ b12 | refine Ext.trans ?_ b11 | refine Ext.trans ?_ b10 | refine Ext.trans ?_ b9 | refine Ext.trans ?_ b8 | refine Ext.trans ?_ b7 | refine Ext.trans ?_ b6 | refine Ext.trans ?_ b5 | refine Ext.trans ?_ b4 | refine Ext.trans ?_ b3 | refine Ext.trans ?_ b2 | refine Ext.trans ?_ b1))) (by omega)).mono ?_; rintro e w4 ⟨v4, rfl, b4, o4⟩; have O4 := Lib.hid o4; clear o4
        go_wp2_with fail
        refine hK.out _ _ (C1.out.ext (by repeat (first | exact Ext.refl _ | refine Ext.trans ?_ (Ext.alloc _ _) | refine Ext.trans ?_ (drew_ext _) | refine Ext.trans ?_ ba | refine Ext.trans ?_ b20 | refine Ext.trans ?_ b19 | refine Ext.trans ?_ b18 | refine Ext.trans ?_ b17 | refine Ext.trans ?_ b16 | refine Ext.trans ?_ b15 | refine Ext.trans ?_ b14 | refine Ext.trans ?_ b13 | refine Ext.trans ?_ b12 | refine Ext.trans ?_ b11 | refine Ext.trans ?_ b10 | refine Ext.trans ?_ b9 | refine Ext.trans ?_ b8 | refine Ext.trans ?_ b7 | refine Ext.trans ?_ b6 | refine Ext.trans ?_ b5 | refine Ext.trans ?_ b4 | refine Ext.trans ?_ b3 | refine Ext.trans ?_ b2 | refine Ext.trans ?_ b1))) (fun hHeld => ?_)
        clear hK K
        try simp only [Act.put, List.getElem_toArray, List.getElem_cons_succ, List.getElem_cons_zero, List.setIfInBounds_toArray, List.set_cons_zero, List.set_cons_succ]
        refine wpAnyH_ready (rs := [8, 12]) (by kernel_rfl) (by simp) ?_
        refine AllReadyH.cons (o := _) rfl (fun K hK => ?_) (AllReadyH.cons (o := _) rfl (fun K hK => ?_) AllReadyH.nil)
        · skip
          go_simp
          go_at_call 19; refine (make_any (r := r) (O3.out.rd.ext (by repeat (first | exact Ext.refl _ | refine Ext.trans ?_ (Ext.alloc _ _) | refine Ext.trans ?_ (drew_ext _) | refine Ext.trans ?_ ba | refine Ext.trans ?_ b20 | refine Ext.trans ?_ b19 | refine Ext.trans ?_ b18 | refine Ext.trans ?_ b17 | refine Ext.trans ?_ b16 | refine Ext.trans ?_ b15 | refine Ext.trans ?_ b14 | refine Ext.trans ?_ b13 | refine Ext.trans ?_ b12 | refine Ext.trans ?_ b11 | refine Ext.trans ?_ b10 | refine Ext.trans ?_ b9 | refine Ext.trans ?_ b8 | refine Ext.trans ?_ b7 | refine Ext.trans ?_ b6 | refine Ext.trans ?_ b5 | refine Ext.trans ?_ b4 | refine Ext.trans ?_ b3 | refine Ext.trans ?_ b2 | refine Ext.trans ?_ b1))) (O4.out.rd.ext (by repeat (first | exact Ext.refl _ | refine Ext.trans ?_ (Ext.alloc _ _) | refine Ext.trans ?_ (drew_ext _) | refine Ext.trans ?_ ba | refine Ext.trans ?_ b20 | refine Ext.trans ?_ b19 | refine Ext.trans ?_ b18 | refine Ext.trans ?_ b17 | refine Ext.trans ?_ b16 | refine Ext.trans ?_ b15 | refine Ext.trans ?_ b14 | refine Ext.trans ?_ b13 | refine Ext.trans ?_ b12 | refine Ext.trans ?_ b11 | refine Ext.trans ?_ b10 | refine Ext.trans ?_ b9 | refine Ext.trans ?_ b8 | refine Ext.trans ?_ b7 | refine Ext.trans ?_ b6 | refine Ext.trans ?_ b5 | refine Ext.trans ?_ b4 | refine Ext.trans ?_ b3 | refine Ext.trans ?_ b2 | refine Ext.trans ?_ b1))) (by omega) (by omega) H0.out HRR.out).mono ?_; rintro e w5 ⟨_, rfl, b5, _, rfl, n5, d5, rfl, on5, od5⟩; have ON5 := Lib.hid on5; have OD5 := Lib.hid od5; clear on5 od5; obtain ⟨an5, cn5, rfl, -, -, -, -⟩ := ON5.out.rd.1.shape; obtain ⟨ad5, cd5, rfl, -, -, -, -⟩ := OD5.out.rd.1.shape
          go_wp2_with fail
          refine hK.out _ _ (C1.out.ext (by repeat (first | exact Ext.refl _ | refine Ext.trans ?_ (Ext.alloc _ _) | refine Ext.trans ?_ (drew_ext _) | refine Ext.trans ?_ ba | refine Ext.trans ?_ b20 | refine Ext.trans ?_ b19 | refine Ext.trans ?_ b18 | refine Ext.trans ?_ b17 | refine Ext.trans ?_ b16 | refine Ext.trans ?_ b15 | refine Ext.trans ?_ b14 | refine Ext.trans ?_ b13 | refine Ext.trans ?_ b12 | refine Ext.trans ?_ b11 | refine Ext.trans ?_ b10 | refine Ext.trans ?_ b9 | refine Ext.trans ?_ b8 | refine Ext.trans ?_ b7 | refine Ext.trans ?_ b6 | refine Ext.trans ?_ b5 | refine Ext.trans ?_ b4 | refine Ext.trans ?_ b3 | refine Ext.trans ?_ b2 | refine Ext.trans ?_ b1))) (fun hHeld => ?_)
          clear hK K
          try simp only [Act.put, List.getElem_toArray, List.getElem_cons_succ, List.getElem_cons_zero, List.setIfInBounds_toArray, List.set_cons_zero, List.set_cons_succ]
          refine wpAnyH_take (i := 9) (v := ?_) rfl (by kernel_rfl) (by kernel_rfl) (by kernel_rfl) (fun _ _ _ h => h) (Or.inl ⟨by rfl, fun w0 hSw => ?_⟩) hHeld ?_
          rotate_left
          · (try dsimp only at hSw)
            go_simp
            try with_reducible rfl
          simp only [Act.put, List.getElem_toArray, List.getElem_cons_succ, List.getElem_cons_zero, List.setIfInBounds_toArray, List.set_cons_zero, List.set_cons_succ]
          refine wpAnyH_take (i := 10) (v := ?_) rfl (by kernel_rfl) (by kernel_rfl) (by kernel_rfl) (fun _ _ _ h => h) (Or.inl ⟨by rfl, fun w0 hSw => ?_⟩) hHeld ?_
          rotate_left
          · (try dsimp only at hSw)
            go_simp
            try with_reducible rfl
          simp only [Act.put, List.getElem_toArray, List.getElem_cons_succ, List.getElem_cons_zero, List.setIfInBounds_toArray, List.set_cons_zero, List.set_cons_succ]
          refine wpAnyH_take (i := 11) (v := ?_) rfl (by kernel_rfl) (by kernel_rfl) (by kernel_rfl) (fun _ _ _ h => h) (Or.inl ⟨by rfl, fun w0 hSw => ?_⟩) hHeld ?_
          rotate_left
          · (try dsimp only at hSw)
            go_simp
            try with_reducible rfl
          simp only [Act.put, List.getElem_toArray, List.getElem_cons_succ, List.getElem_cons_zero, List.setIfInBounds_toArray, List.set_cons_zero, List.set_cons_succ]
          refine wpAnyH_ready (rs := [12]) (by kernel_rfl) (by simp) ?_
          refine AllReadyH.cons (o := _) rfl (fun K hK => ?_) AllReadyH.nil
          go_simp
          refine hK.out _ _ (C1.out.ext (by repeat (first | exact Ext.refl _ | refine Ext.trans ?_ (Ext.alloc _ _) | refine Ext.trans ?_ (drew_ext _) | refine Ext.trans ?_ ba | refine Ext.trans ?_ b20 | refine Ext.trans ?_ b19 | refine Ext.trans ?_ b18 | refine Ext.trans ?_ b17 | refine Ext.trans ?_ b16 | refine Ext.trans ?_ b15 | refine Ext.trans ?_ b14 | refine Ext.trans ?_ b13 | refine Ext.trans ?_ b12 | refine Ext.trans ?_ b11 | refine Ext.trans ?_ b10 | refine Ext.trans ?_ b9 | refine Ext.trans ?_ b8 | refine Ext.trans ?_ b7 | refine Ext.trans ?_ b6 | refine Ext.trans ?_ b5 | refine Ext.trans ?_ b4 | refine Ext.trans ?_ b3 | refine Ext.trans ?_ b2 | refine Ext.trans ?_ b1))) (fun hHeld => ?_)
          clear hK K
          try simp only [Act.put, List.getElem_toArray, List.getElem_cons_succ, List.getElem_cons_zero, List.setIfInBounds_toArray, List.set_cons_zero, List.set_cons_succ]
          obtain ⟨wa, hwa, ba, ra, za⟩ := boxR w5 (.bool false) (.slice none 0 0) (.slice none 0 0) 36
          rw [← hwa] at hHeld ⊢
          have RA : Hid (Room3 wa w5.heap.size) := ra
          have hsz : Hid (w1.heap.size ≤ w5.heap.size) := Below.size (by repeat (first | exact Ext.refl _ | refine Ext.trans ?_ (Ext.alloc _ _) | refine Ext.trans ?_ (drew_ext _) | refine Ext.trans ?_ ba | refine Ext.trans ?_ b20 | refine Ext.trans ?_ b19 | refine Ext.trans ?_ b18 | refine Ext.trans ?_ b17 | refine Ext.trans ?_ b16 | refine Ext.trans ?_ b15 | refine Ext.trans ?_ b14 | refine Ext.trans ?_ b13 | refine Ext.trans ?_ b12 | refine Ext.trans ?_ b11 | refine Ext.trans ?_ b10 | refine Ext.trans ?_ b9 | refine Ext.trans ?_ b8 | refine Ext.trans ?_ b7 | refine Ext.trans ?_ b6 | refine Ext.trans ?_ b5 | refine Ext.trans ?_ b4 | refine Ext.trans ?_ b3 | refine Ext.trans ?_ b2 | refine Ext.trans ?_ b1))
          have za : wa.heap.size = w5.heap.size + 1 := za
          clear hwa ra
          obtain ⟨_, _, _, j0, j1, j2, g0, g1, g2⟩ := (RA.out.ext (show Ext wa wa from (by repeat (first | exact Ext.refl _ | refine Ext.trans ?_ (Ext.alloc _ _) | refine Ext.trans ?_ (drew_ext _) | refine Ext.trans ?_ ba | refine Ext.trans ?_ b20 | refine Ext.trans ?_ b19 | refine Ext.trans ?_ b18 | refine Ext.trans ?_ b17 | refine Ext.trans ?_ b16 | refine Ext.trans ?_ b15 | refine Ext.trans ?_ b14 | refine Ext.trans ?_ b13 | refine Ext.trans ?_ b12 | refine Ext.trans ?_ b11 | refine Ext.trans ?_ b10 | refine Ext.trans ?_ b9 | refine Ext.trans ?_ b8 | refine Ext.trans ?_ b7 | refine Ext.trans ?_ b6 | refine Ext.trans ?_ b5 | refine Ext.trans ?_ b4 | refine Ext.trans ?_ b3 | refine Ext.trans ?_ b2 | refine Ext.trans ?_ b1)))).cells
          refine wpAnyH_ready (rs := [13]) (by kernel_rfl) (by simp) ?_
          refine AllReadyH.cons (o := _) rfl (fun K hK => ?_) AllReadyH.nil
          go_simp
          refine hK.out _ _ ((C1.out.ext (show Ext w1 wa from (by repeat (first | exact Ext.refl _ | refine Ext.trans ?_ (Ext.alloc _ _) | refine Ext.trans ?_ (drew_ext _) | refine Ext.trans ?_ ba | refine Ext.trans ?_ b20 | refine Ext.trans ?_ b19 | refine Ext.trans ?_ b18 | refine Ext.trans ?_ b17 | refine Ext.trans ?_ b16 | refine Ext.trans ?_ b15 | refine Ext.trans ?_ b14 | refine Ext.trans ?_ b13 | refine Ext.trans ?_ b12 | refine Ext.trans ?_ b11 | refine Ext.trans ?_ b10 | refine Ext.trans ?_ b9 | refine Ext.trans ?_ b8 | refine Ext.trans ?_ b7 | refine Ext.trans ?_ b6 | refine Ext.trans ?_ b5 | refine Ext.trans ?_ b4 | refine Ext.trans ?_ b3 | refine Ext.trans ?_ b2 | refine Ext.trans ?_ b1)))).put (c := w5.heap.size) (by have := hsz.out; have := hsq.out; omega) _ _ _) (fun hHeld => ?_)
          clear hK K
          try simp only [Act.put, List.getElem_toArray, List.getElem_cons_succ, List.getElem_cons_zero, List.setIfInBounds_toArray, List.set_cons_zero, List.set_cons_succ]
          refine wpAnyH_take (i := 14) (v := ?_) rfl (by kernel_rfl) (by kernel_rfl) (by kernel_rfl) (fun _ _ _ h => h) (Or.inl ⟨by rfl, fun w0 hSw => ?_⟩) hHeld ?_
          rotate_left
          · (try dsimp only at hSw)
            go_simp
            try with_reducible rfl
          simp only [Act.put, List.getElem_toArray, List.getElem_cons_succ, List.getElem_cons_zero, List.setIfInBounds_toArray, List.set_cons_zero, List.set_cons_succ]
          refine wpAnyH_done (by kernel_rfl) ?_ _
          refine NoPanic.normal ?_
          have hd1 : w1.drew.heap.size = w1.heap.size := rfl
          have h3 := b3.size
          have h4 := b4.size
          have h5 := b5.size
          have ha := ba.size
          have hda : wa.drew.heap.size = wa.heap.size := rfl
          go_wp2_with fail
          go_meet
          exact ⟨rfl, put3_below (by repeat (first | exact Ext.refl _ | refine Ext.trans ?_ (Ext.alloc _ _) | refine Ext.trans ?_ (drew_ext _) | refine Ext.trans ?_ ba | refine Ext.trans ?_ b20 | refine Ext.trans ?_ b19 | refine Ext.trans ?_ b18 | refine Ext.trans ?_ b17 | refine Ext.trans ?_ b16 | refine Ext.trans ?_ b15 | refine Ext.trans ?_ b14 | refine Ext.trans ?_ b13 | refine Ext.trans ?_ b12 | refine Ext.trans ?_ b11 | refine Ext.trans ?_ b10 | refine Ext.trans ?_ b9 | refine Ext.trans ?_ b8 | refine Ext.trans ?_ b7 | refine Ext.trans ?_ b6 | refine Ext.trans ?_ b5 | refine Ext.trans ?_ b4 | refine Ext.trans ?_ b3 | refine Ext.trans ?_ b2 | refine Ext.trans ?_ b1)) hsz.out _ _ _, _, _, _, _, _, rfl, Box3.put_at (RA.out.ext (by repeat (first | exact Ext.refl _ | refine Ext.trans ?_ (Ext.alloc _ _) | refine Ext.trans ?_ (drew_ext _) | refine Ext.trans ?_ ba | refine Ext.trans ?_ b20 | refine Ext.trans ?_ b19 | refine Ext.trans ?_ b18 | refine Ext.trans ?_ b17 | refine Ext.trans ?_ b16 | refine Ext.trans ?_ b15 | refine Ext.trans ?_ b14 | refine Ext.trans ?_ b13 | refine Ext.trans ?_ b12 | refine Ext.trans ?_ b11 | refine Ext.trans ?_ b10 | refine Ext.trans ?_ b9 | refine Ext.trans ?_ b8 | refine Ext.trans ?_ b7 | refine Ext.trans ?_ b6 | refine Ext.trans ?_ b5 | refine Ext.trans ?_ b4 | refine Ext.trans ?_ b3 | refine Ext.trans ?_ b2 | refine Ext.trans ?_ b1))) _ _ _, (ON5.out.put_new (by repeat (first | exact Ext.refl _ | refine Ext.trans ?_ (Ext.alloc _ _) | refine Ext.trans ?_ (drew_ext _) | refine Ext.trans ?_ ba | refine Ext.trans ?_ b20 | refine Ext.trans ?_ b19 | refine Ext.trans ?_ b18 | refine Ext.trans ?_ b17 | refine Ext.trans ?_ b16 | refine Ext.trans ?_ b15 | refine Ext.trans ?_ b14 | refine Ext.trans ?_ b13 | refine Ext.trans ?_ b12 | refine Ext.trans ?_ b11 | refine Ext.trans ?_ b10 | refine Ext.trans ?_ b9 | refine Ext.trans ?_ b8 | refine Ext.trans ?_ b7 | refine Ext.trans ?_ b6 | refine Ext.trans ?_ b5 | refine Ext.trans ?_ b4 | refine Ext.trans ?_ b3 | refine Ext.trans ?_ b2 | refine Ext.trans ?_ b1)) (by omega) _ _ _).rd, (OD5.out.put_new (by repeat (first | exact Ext.refl _ | refine Ext.trans ?_ (Ext.alloc _ _) | refine Ext.trans ?_ (drew_ext _) | refine Ext.trans ?_ ba | refine Ext.trans ?_ b20 | refine Ext.trans ?_ b19 | refine Ext.trans ?_ b18 | refine Ext.trans ?_ b17 | refine Ext.trans ?_ b16 | refine Ext.trans ?_ b15 | refine Ext.trans ?_ b14 | refine Ext.trans ?_ b13 | refine Ext.trans ?_ b12 | refine Ext.trans ?_ b11 | refine Ext.trans ?_ b10 | refine Ext.trans ?_ b9 | refine Ext.trans ?_ b8 | refine Ext.trans ?_ b7 | refine Ext.trans ?_ b6 | refine Ext.trans ?_ b5 | refine Ext.trans ?_ b4 | refine Ext.trans ?_ b3 | refine Ext.trans ?_ b2 | refine Ext.trans ?_ b1)) (by omega) _ _ _).rd⟩
        · skip
          go_simp
          refine hK.out _ _ (C1.out.ext (by repeat (first | exact Ext.refl _ | refine Ext.trans ?_ (Ext.alloc _ _) | refine Ext.trans ?_ (drew_ext _) | refine Ext.trans ?_ ba | refine Ext.trans ?_ b20 | refine Ext.trans ?_ b19 | refine Ext.trans ?_ b18 | refine Ext.trans ?_ b17 | refine Ext.trans ?_ b16 | refine Ext.trans ?_ b15 | refine Ext.trans ?_ b14 | refine Ext.trans ?_ b13 | refine Ext.trans ?_ b12 | refine Ext.trans ?_ b11 | refine Ext.trans ?_ b10 | refine Ext.trans ?_ b9 | refine Ext.trans ?_ b8 | refine Ext.trans ?_ b7 | refine Ext.trans ?_ b6 | refine Ext.trans ?_ b5 | refine Ext.trans ?_ b4 | refine Ext.trans ?_ b3 | refine Ext.trans ?_ b2 | refine Ext.trans ?_ b1))) (fun hHeld => ?_)
          clear hK K
          try simp only [Act.put, List.getElem_toArray, List.getElem_cons_succ, List.getElem_cons_zero, List.setIfInBounds_toArray, List.set_cons_zero, List.set_cons_succ]
          obtain ⟨wa, hwa, ba, ra, za⟩ := boxR w4 (.bool false) (.slice none 0 0) (.slice none 0 0) 36
          rw [← hwa] at hHeld ⊢
          have RA : Hid (Room3 wa w4.heap.size) := ra
          have hsz : Hid (w1.heap.size ≤ w4.heap.size) := Below.size (by repeat (first | exact Ext.refl _ | refine Ext.trans ?_ (Ext.alloc _ _) | refine Ext.trans ?_ (drew_ext _) | refine Ext.trans ?_ ba | refine Ext.trans ?_ b20 | refine Ext.trans ?_ b19 | refine Ext.trans ?_ b18 | refine Ext.trans ?_ b17 | refine Ext.trans ?_ b16 | refine Ext.trans ?_ b15 | refine Ext.trans ?_ b14 | refine Ext.trans ?_ b13 | refine Ext.trans ?_ b12 | refine Ext.trans ?_ b11 | refine Ext.trans ?_ b10 | refine Ext.trans ?_ b9 | refine Ext.trans ?_ b8 | refine Ext.trans ?_ b7 | refine Ext.trans ?_ b6 | refine Ext.trans ?_ b5 | refine Ext.trans ?_ b4 | refine Ext.trans ?_ b3 | refine Ext.trans ?_ b2 | refine Ext.trans ?_ b1))
          have za : wa.heap.size = w4.heap.size + 1 := za
          clear hwa ra
          refine wpAnyH_ready (rs := [8]) (by kernel_rfl) (by simp) ?_
          refine AllReadyH.cons (o := _) rfl (fun K hK => ?_) AllReadyH.nil
          go_simp
          go_at_call 19; refine (make_any (r := r) (O3.out.rd.ext (by repeat (first | exact Ext.refl _ | refine Ext.trans ?_ (Ext.alloc _ _) | refine Ext.trans ?_ (drew_ext _) | refine Ext.trans ?_ ba | refine Ext.trans ?_ b20 | refine Ext.trans ?_ b19 | refine Ext.trans ?_ b18 | refine Ext.trans ?_ b17 | refine Ext.trans ?_ b16 | refine Ext.trans ?_ b15 | refine Ext.trans ?_ b14 | refine Ext.trans ?_ b13 | refine Ext.trans ?_ b12 | refine Ext.trans ?_ b11 | refine Ext.trans ?_ b10 | refine Ext.trans ?_ b9 | refine Ext.trans ?_ b8 | refine Ext.trans ?_ b7 | refine Ext.trans ?_ b6 | refine Ext.trans ?_ b5 | refine Ext.trans ?_ b4 | refine Ext.trans ?_ b3 | refine Ext.trans ?_ b2 | refine Ext.trans ?_ b1))) (O4.out.rd.ext (by repeat (first | exact Ext.refl _ | refine Ext.trans ?_ (Ext.alloc _ _) | refine Ext.trans ?_ (drew_ext _) | refine Ext.trans ?_ ba | refine Ext.trans ?_ b20 | refine Ext.trans ?_ b19 | refine Ext.trans ?_ b18 | refine Ext.trans ?_ b17 | refine Ext.trans ?_ b16 | refine Ext.trans ?_ b15 | refine Ext.trans ?_ b14 | refine Ext.trans ?_ b13 | refine Ext.trans ?_ b12 | refine Ext.trans ?_ b11 | refine Ext.trans ?_ b10 | refine Ext.trans ?_ b9 | refine Ext.trans ?_ b8 | refine Ext.trans ?_ b7 | refine Ext.trans ?_ b6 | refine Ext.trans ?_ b5 | refine Ext.trans ?_ b4 | refine Ext.trans ?_ b3 | refine Ext.trans ?_ b2 | refine Ext.trans ?_ b1))) (by omega) (by omega) H0.out HRR.out).mono ?_; rintro e w5 ⟨_, rfl, b5, _, rfl, n5, d5, rfl, on5, od5⟩; have ON5 := Lib.hid on5; have OD5 := Lib.hid od5; clear on5 od5; obtain ⟨an5, cn5, rfl, -, -, -, -⟩ := ON5.out.rd.1.shape; obtain ⟨ad5, cd5, rfl, -, -, -, -⟩ := OD5.out.rd.1.shape
          go_wp2_with fail
          refine hK.out _ _ (C1.out.ext (by repeat (first | exact Ext.refl _ | refine Ext.trans ?_ (Ext.alloc _ _) | refine Ext.trans ?_ (drew_ext _) | refine Ext.trans ?_ ba | refine Ext.trans ?_ b20 | refine Ext.trans ?_ b19 | refine Ext.trans ?_ b18 | refine Ext.trans ?_ b17 | refine Ext.trans ?_ b16 | refine Ext.trans ?_ b15 | refine Ext.trans ?_ b14 | refine Ext.trans ?_ b13 | refine Ext.trans ?_ b12 | refine Ext.trans ?_ b11 | refine Ext.trans ?_ b10 | refine Ext.trans ?_ b9 | refine Ext.trans ?_ b8 | refine Ext.trans ?_ b7 | refine Ext.trans ?_ b6 | refine Ext.trans ?_ b5 | refine Ext.trans ?_ b4 | refine Ext.trans ?_ b3 | refine Ext.trans ?_ b2 | refine Ext.trans ?_ b1))) (fun hHeld => ?_)
          clear hK K
          try simp only [Act.put, List.getElem_toArray, List.getElem_cons_succ, List.getElem_cons_zero, List.setIfInBounds_toArray, List.set_cons_zero, List.set_cons_succ]
          refine wpAnyH_take (i := 9) (v := ?_) rfl (by kernel_rfl) (by kernel_rfl) (by kernel_rfl) (fun _ _ _ h => h) (Or.inl ⟨by rfl, fun w0 hSw => ?_⟩) hHeld ?_
          rotate_left
          · (try dsimp only at hSw)
            go_simp
            try with_reducible rfl
          simp only [Act.put, List.getElem_toArray, List.getElem_cons_succ, List.getElem_cons_zero, List.setIfInBounds_toArray, List.set_cons_zero, List.set_cons_succ]
          refine wpAnyH_take (i := 10) (v := ?_) rfl (by kernel_rfl) (by kernel_rfl) (by kernel_rfl) (fun _ _ _ h => h) (Or.inl ⟨by rfl, fun w0 hSw => ?_⟩) hHeld ?_
          rotate_left
          · (try dsimp only at hSw)
            go_simp
            try with_reducible rfl
          simp only [Act.put, List.getElem_toArray, List.getElem_cons_succ, List.getElem_cons_zero, List.setIfInBounds_toArray, List.set_cons_zero, List.set_cons_succ]
          refine wpAnyH_take (i := 11) (v := ?_) rfl (by kernel_rfl) (by kernel_rfl) (by kernel_rfl) (fun _ _ _ h => h) (Or.inl ⟨by rfl, fun w0 hSw => ?_⟩) hHeld ?_
          rotate_left
          · (try dsimp only at hSw)
            go_simp
            try with_reducible rfl
          simp only [Act.put, List.getElem_toArray, List.getElem_cons_succ, List.getElem_cons_zero, List.setIfInBounds_toArray, List.set_cons_zero, List.set_cons_succ]
          obtain ⟨_, _, _, j0, j1, j2, g0, g1, g2⟩ := (RA.out.ext (show Ext wa w5 from (by repeat (first | exact Ext.refl _ | refine Ext.trans ?_ (Ext.alloc _ _) | refine Ext.trans ?_ (drew_ext _) | refine Ext.trans ?_ ba | refine Ext.trans ?_ b20 | refine Ext.trans ?_ b19 | refine Ext.trans ?_ b18 | refine Ext.trans ?_ b17 | refine Ext.trans ?_ b16 | refine Ext.trans ?_ b15 | refine Ext.trans ?_ b14 | refine Ext.trans ?_ b13 | refine Ext.trans ?_ b12 | refine Ext.trans ?_ b11 | refine Ext.trans ?_ b10 | refine Ext.trans ?_ b9 | refine Ext.trans ?_ b8 | refine Ext.trans ?_ b7 | refine Ext.trans ?_ b6 | refine Ext.trans ?_ b5 | refine Ext.trans ?_ b4 | refine Ext.trans ?_ b3 | refine Ext.trans ?_ b2 | refine Ext.trans ?_ b1)))).cells
          refine wpAnyH_ready (rs := [13]) (by kernel_rfl) (by simp) ?_
          refine AllReadyH.cons (o := _) rfl (fun K hK => ?_) AllReadyH.nil
          go_simp
          refine hK.out _ _ ((C1.out.ext (show Ext w1 w5 from (by repeat (first | exact Ext.refl _ | refine Ext.trans ?_ (Ext.alloc _ _) | refine Ext.trans ?_ (drew_ext _) | refine Ext.trans ?_ ba | refine Ext.trans ?_ b20 | refine Ext.trans ?_ b19 | refine Ext.trans ?_ b18 | refine Ext.trans ?_ b17 | refine Ext.trans ?_ b16 | refine Ext.trans ?_ b15 | refine Ext.trans ?_ b14 | refine Ext.trans ?_ b13 | refine Ext.trans ?_ b12 | refine Ext.trans ?_ b11 | refine Ext.trans ?_ b10 | refine Ext.trans ?_ b9 | refine Ext.trans ?_ b8 | refine Ext.trans ?_ b7 | refine Ext.trans ?_ b6 | refine Ext.trans ?_ b5 | refine Ext.trans ?_ b4 | refine Ext.trans ?_ b3 | refine Ext.trans ?_ b2 | refine Ext.trans ?_ b1)))).put (c := w4.heap.size) (by have := hsz.out; have := hsq.out; omega) _ _ _) (fun hHeld => ?_)
          clear hK K
          try simp only [Act.put, List.getElem_toArray, List.getElem_cons_succ, List.getElem_cons_zero, List.setIfInBounds_toArray, List.set_cons_zero, List.set_cons_succ]
          refine wpAnyH_take (i := 14) (v := ?_) rfl (by kernel_rfl) (by kernel_rfl) (by kernel_rfl) (fun _ _ _ h => h) (Or.inl ⟨by rfl, fun w0 hSw => ?_⟩) hHeld ?_
          rotate_left
          · (try dsimp only at hSw)
            go_simp
            try with_reducible rfl
          simp only [Act.put, List.getElem_toArray, List.getElem_cons_succ, List.getElem_cons_zero, List.setIfInBounds_toArray, List.set_cons_zero, List.set_cons_succ]
          refine wpAnyH_done (by kernel_rfl) ?_ _
          refine NoPanic.normal ?_
          have hd1 : w1.drew.heap.size = w1.heap.size := rfl
          have h3 := b3.size
          have h4 := b4.size
          have h5 := b5.size
          have ha := ba.size
          have hda : wa.drew.heap.size = wa.heap.size := rfl
          go_wp2_with fail
          go_meet
          exact ⟨rfl, put3_below (by repeat (first | exact Ext.refl _ | refine Ext.trans ?_ (Ext.alloc _ _) | refine Ext.trans ?_ (drew_ext _) | refine Ext.trans ?_ ba | refine Ext.trans ?_ b20 | refine Ext.trans ?_ b19 | refine Ext.trans ?_ b18 | refine Ext.trans ?_ b17 | refine Ext.trans ?_ b16 | refine Ext.trans ?_ b15 | refine Ext.trans ?_ b14 | refine Ext.trans ?_ b13 | refine Ext.trans ?_ b12 | refine Ext.trans ?_ b11 | refine Ext.trans ?_ b10 | refine Ext.trans ?_ b9 | refine Ext.trans ?_ b8 | refine Ext.trans ?_ b7 | refine Ext.trans ?_ b6 | refine Ext.trans ?_ b5 | refine Ext.trans ?_ b4 | refine Ext.trans ?_ b3 | refine Ext.trans ?_ b2 | refine Ext.trans ?_ b1)) hsz.out _ _ _, _, _, _, _, _, rfl, Box3.put_at (RA.out.ext (by repeat (first | exact Ext.refl _ | refine Ext.trans ?_ (Ext.alloc _ _) | refine Ext.trans ?_ (drew_ext _) | refine Ext.trans ?_ ba | refine Ext.trans ?_ b20 | refine Ext.trans ?_ b19 | refine Ext.trans ?_ b18 | refine Ext.trans ?_ b17 | refine Ext.trans ?_ b16 | refine Ext.trans ?_ b15 | refine Ext.trans ?_ b14 | refine Ext.trans ?_ b13 | refine Ext.trans ?_ b12 | refine Ext.trans ?_ b11 | refine Ext.trans ?_ b10 | refine Ext.trans ?_ b9 | refine Ext.trans ?_ b8 | refine Ext.trans ?_ b7 | refine Ext.trans ?_ b6 | refine Ext.trans ?_ b5 | refine Ext.trans ?_ b4 | refine Ext.trans ?_ b3 | refine Ext.trans ?_ b2 | refine Ext.trans ?_ b1))) _ _ _, (ON5.out.put_new (by repeat (first | exact Ext.refl _ | refine Ext.trans ?_ (Ext.alloc _ _) | refine Ext.trans ?_ (drew_ext _) | refine Ext.trans ?_ ba | refine Ext.trans ?_ b20 | refine Ext.trans ?_ b19 | refine Ext.trans ?_ b18 | refine Ext.trans ?_ b17 | refine Ext.trans ?_ b16 | refine Ext.trans ?_ b15 | refine Ext.trans ?_ b14 | refine Ext.trans ?_ b13 | refine Ext.trans ?_ b12 | refine Ext.trans ?_ b11 | refine Ext.trans ?_ b10 | refine Ext.trans ?_ b9 | refine Ext.trans ?_ b8 | refine Ext.trans ?_ b7 | refine Ext.trans ?_ b6 | refine Ext.trans ?_ b5 | refine Ext.trans ?_ b4 | refine Ext.trans ?_ b3 | refine Ext.trans ?_ b2 | refine Ext.trans ?_ b1)) (by omega) _ _ _).rd, (OD5.out.put_new (by repeat (first | exact Ext.refl _ | refine Ext.trans ?_ (Ext.alloc _ _) | refine Ext.trans ?_ (drew_ext _) | refine Ext.trans ?_ ba | refine Ext.trans ?_ b20 | refine Ext.trans ?_ b19 | refine Ext.trans ?_ b18 | refine Ext.trans ?_ b17 | refine Ext.trans ?_ b16 | refine Ext.trans ?_ b15 | refine Ext.trans ?_ b14 | refine Ext.trans ?_ b13 | refine Ext.trans ?_ b12 | refine Ext.trans ?_ b11 | refine Ext.trans ?_ b10 | refine Ext.trans ?_ b9 | refine Ext.trans ?_ b8 | refine Ext.trans ?_ b7 | refine Ext.trans ?_ b6 | refine Ext.trans ?_ b5 | refine Ext.trans ?_ b4 | refine Ext.trans ?_ b3 | refine Ext.trans ?_ b2 | refine Ext.trans ?_ b1)) (by omega) _ _ _).rd⟩
      · skip
        go_simp
        refine hK.out _ _ (C1.out.ext (by repeat (first | exact Ext.refl _ | refine Ext.trans ?_ (Ext.alloc _ _) | refine Ext.trans ?_ (drew_ext _) | refine Ext.trans ?_ ba | refine Ext.trans ?_ b20 | refine Ext.trans ?_ b19 | refine Ext.trans ?_ b18 | refine Ext.trans ?_ b17 | refine Ext.trans ?_ b16 | refine Ext.trans ?_ b15 | refine Ext.trans ?_ b14 | refine Ext.trans ?_ b13 | refine Ext.trans ?_ b12 | refine Ext.trans ?_ b11 | refine Ext.trans ?_ b10 | refine Ext.trans ?_ b9 | refine Ext.trans ?_ b8 | refine Ext.trans ?_ b7 | refine Ext.trans ?_ b6 | refine Ext.trans ?_ b5 | refine Ext.trans ?_ b4 | refine Ext.trans ?_ b3 | refine Ext.trans ?_ b2 | refine Ext.trans ?_ b1))) (fun hHeld => ?_)
        clear hK K
        try simp only [Act.put, List.getElem_toArray, List.getElem_cons_succ, List.getElem_cons_zero, List.setIfInBounds_toArray, List.set_cons_zero, List.set_cons_succ]
        obtain ⟨wa, hwa, ba, ra, za⟩ := boxR w3 (.bool false) (.slice none 0 0) (.slice none 0 0) 36
        rw [← hwa] at hHeld ⊢
        have RA : Hid (Room3 wa w3.heap.size) := ra
        have hsz : Hid (w1.heap.size ≤ w3.heap.size) := Below.size (by repeat (first | exact Ext.refl _ | refine Ext.trans ?_ (Ext.alloc _ _) | refine Ext.trans ?_ (drew_ext _) | refine Ext.trans ?_ ba | refine Ext.trans ?_ b20 | refine Ext.trans ?_ b19 | refine Ext.trans ?_ b18 | refine Ext.trans ?_ b17 | refine Ext.trans ?_ b16 | refine Ext.trans ?_ b15 | refine Ext.trans ?_ b14 | refine Ext.trans ?_ b13 | refine Ext.trans ?_ b12 | refine Ext.trans ?_ b11 | refine Ext.trans ?_ b10 | refine Ext.trans ?_ b9 | refine Ext.trans ?_ b8 | refine Ext.trans ?_ b7 | refine Ext.trans ?_ b6 | refine Ext.trans ?_ b5 | refine Ext.trans ?_ b4 | refine Ext.trans ?_ b3 | refine Ext.trans ?_ b2 | refine Ext.trans ?_ b1))
        have za : wa.heap.size = w3.heap.size + 1 := za
        clear hwa ra
        refine wpAnyH_ready (rs := [7]) (by kernel_rfl) (by simp) ?_
        refine AllReadyH.cons (o := _) rfl (fun K hK => ?_) AllReadyH.nil
        go_simp
        go_at_call 20; refine (few5_any (HB.out.ext (by repeat (first | exact Ext.refl _ | refine Ext.trans ?_ (Ext.alloc _ _) | refine Ext.trans ?_ (drew_ext _) | refine Ext.trans ?_ ba | refine Ext.trans ?_ b20 | refine Ext.trans ?_ b19 | refine Ext.trans ?_ b18 | refine Ext.trans ?_ b17 | refine Ext.trans ?_ b16 | refine Ext.trans ?_ b15 | refine Ext.trans ?_ b14 | refine Ext.trans ?_ b13 | refine Ext.trans ?_ b12 | refine Ext.trans ?_ b11 | refine Ext.trans ?_ b10 | refine Ext.trans ?_ b9 | refine Ext.trans ?_ b8 | refine Ext.trans ?_ b7 | refine Ext.trans ?_ b6 | refine Ext.trans ?_ b5 | refine Ext.trans ?_ b4 | refine Ext.trans ?_ b3 | refine Ext.trans ?_ b2 | refine Ext.trans ?_ b1))) (by omega)).mono ?_; rintro e w4 ⟨v4, rfl, b4, o4⟩; have O4 := Lib.hid o4; clear o4
        go_wp2_with fail
        refine hK.out _ _ (C1.out.ext (by repeat (first | exact Ext.refl _ | refine Ext.trans ?_ (Ext.alloc _ _) | refine Ext.trans ?_ (drew_ext _) | refine Ext.trans ?_ ba | refine Ext.trans ?_ b20 | refine Ext.trans ?_ b19 | refine Ext.trans ?_ b18 | refine Ext.trans ?_ b17 | refine Ext.trans ?_ b16 | refine Ext.trans ?_ b15 | refine Ext.trans ?_ b14 | refine Ext.trans ?_ b13 | refine Ext.trans ?_ b12 | refine Ext.trans ?_ b11 | refine Ext.trans ?_ b10 | refine Ext.trans ?_ b9 | refine Ext.trans ?_ b8 | refine Ext.trans ?_ b7 | refine Ext.trans ?_ b6 | refine Ext.trans ?_ b5 | refine Ext.trans ?_ b4 | refine Ext.trans ?_ b3 | refine Ext.trans ?_ b2 | refine Ext.trans ?_ b1))) (fun hHeld => ?_)
        clear hK K
        try simp only [Act.put, List.getElem_toArray, List.getElem_cons_succ, List.getElem_cons_zero, List.setIfInBounds_toArray, List.set_cons_zero, List.set_cons_succ]
        refine wpAnyH_ready (rs := [8]) (by kernel_rfl) (by simp) ?_
        refine AllReadyH.cons (o := _) rfl (fun K hK => ?_) AllReadyH.nil
        go_simp
        go_at_call 19; refine (make_any (r := r) (O3.out.rd.ext (by repeat (first | exact Ext.refl _ | refine Ext.trans ?_ (Ext.alloc _ _) | refine Ext.trans ?_ (drew_ext _) | refine Ext.trans ?_ ba | refine Ext.trans ?_ b20 | refine Ext.trans ?_ b19 | refine Ext.trans ?_ b18 | refine Ext.trans ?_ b17 | refine Ext.trans ?_ b16 | refine Ext.trans ?_ b15 | refine Ext.trans ?_ b14 | refine Ext.trans ?_ b13 | refine Ext.trans ?_ b12 | refine Ext.trans ?_ b11 | refine Ext.trans ?_ b10 | refine Ext.trans ?_ b9 | refine Ext.trans ?_ b8 | refine Ext.trans ?_ b7 | refine Ext.trans ?_ b6 | refine Ext.trans ?_ b5 | refine Ext.trans ?_ b4 | refine Ext.trans ?_ b3 | refine Ext.trans ?_ b2 | refine Ext.trans ?_ b1))) (O4.out.rd.ext (by repeat (first | exact Ext.refl _ | refine Ext.trans ?_ (Ext.alloc _ _) | refine Ext.trans ?_ (drew_ext _) | refine Ext.trans ?_ ba | refine Ext.trans ?_ b20 | refine Ext.trans ?_ b19 | refine Ext.trans ?_ b18 | refine Ext.trans ?_ b17 | refine Ext.trans ?_ b16 | refine Ext.trans ?_ b15 | refine Ext.trans ?_ b14 | refine Ext.trans ?_ b13 | refine Ext.trans ?_ b12 | refine Ext.trans ?_ b11 | refine Ext.trans ?_ b10 | refine Ext.trans ?_ b9 | refine Ext.trans ?_ b8 | refine Ext.trans ?_ b7 | refine Ext.trans ?_ b6 | refine Ext.trans ?_ b5 | refine Ext.trans ?_ b4 | refine Ext.trans ?_ b3 | refine Ext.trans ?_ b2 | refine Ext.trans ?_ b1))) (by omega) (by omega) H0.out HRR.out).mono ?_; rintro e w5 ⟨_, rfl, b5, _, rfl, n5, d5, rfl, on5, od5⟩; have ON5 := Lib.hid on5; have OD5 := Lib.hid od5; clear on5 od5; obtain ⟨an5, cn5, rfl, -, -, -, -⟩ := ON5.out.rd.1.shape; obtain ⟨ad5, cd5, rfl, -, -, -, -⟩ := OD5.out.rd.1.shape
        go_wp2_with fail
        refine hK.out _ _ (C1.out.ext (by repeat (first | exact Ext.refl _ | refine Ext.trans ?_ (Ext.alloc _ _) | refine Ext.trans ?_ (drew_ext _) | refine Ext.trans ?_ ba | refine Ext.trans ?_ b20 | refine Ext.trans ?_ b19 | refine Ext.trans ?_ b18 | refine Ext.trans ?_ b17 | refine Ext.trans ?_ b16 | refine Ext.trans ?_ b15 | refine Ext.trans ?_ b14 | refine Ext.trans ?_ b13 | refine Ext.trans ?_ b12 | refine Ext.trans ?_ b11 | refine Ext.trans ?_ b10 | refine Ext.trans ?_ b9 | refine Ext.trans ?_ b8 | refine Ext.trans ?_ b7 | refine Ext.trans ?_ b6 | refine Ext.trans ?_ b5 | refine Ext.trans ?_ b4 | refine Ext.trans ?_ b3 | refine Ext.trans ?_ b2 | refine Ext.trans ?_ b1))) (fun hHeld => ?_)
        clear hK K
        try simp only [Act.put, List.getElem_toArray, List.getElem_cons_succ, List.getElem_cons_zero, List.setIfInBounds_toArray, List.set_cons_zero, List.set_cons_succ]
        refine wpAnyH_take (i := 9) (v := ?_) rfl (by kernel_rfl) (by kernel_rfl) (by kernel_rfl) (fun _ _ _ h => h) (Or.inl ⟨by rfl, fun w0 hSw => ?_⟩) hHeld ?_
        rotate_left
        · (try dsimp only at hSw)
          go_simp
          try with_reducible rfl
        simp only [Act.put, List.getElem_toArray, List.getElem_cons_succ, List.getElem_cons_zero, List.setIfInBounds_toArray, List.set_cons_zero, List.set_cons_succ]
        refine wpAnyH_take (i := 10) (v := ?_) rfl (by kernel_rfl) (by kernel_rfl) (by kernel_rfl) (fun _ _ _ h => h) (Or.inl ⟨by rfl, fun w0 hSw => ?_⟩) hHeld ?_
        rotate_left
        · (try dsimp only at hSw)
          go_simp
          try with_reducible rfl
        simp only [Act.put, List.getElem_toArray, List.getElem_cons_succ, List.getElem_cons_zero, List.setIfInBounds_toArray, List.set_cons_zero, List.set_cons_succ]
        refine wpAnyH_take (i := 11) (v := ?_) rfl (by kernel_rfl) (by kernel_rfl) (by kernel_rfl) (fun _ _ _ h => h) (Or.inl ⟨by rfl, fun w0 hSw => ?_⟩) hHeld ?_
        rotate_left
        · (try dsimp only at hSw)
          go_simp
          try with_reducible rfl
        simp only [Act.put, List.getElem_toArray, List.getElem_cons_succ, List.getElem_cons_zero, List.setIfInBounds_toArray, List.set_cons_zero, List.set_cons_succ]
        obtain ⟨_, _, _, j0, j1, j2, g0, g1, g2⟩ := (RA.out.ext (show Ext wa w5 from (by repeat (first | exact Ext.refl _ | refine Ext.trans ?_ (Ext.alloc _ _) | refine Ext.trans ?_ (drew_ext _) | refine Ext.trans ?_ ba | refine Ext.trans ?_ b20 | refine Ext.trans ?_ b19 | refine Ext.trans ?_ b18 | refine Ext.trans ?_ b17 | refine Ext.trans ?_ b16 | refine Ext.trans ?_ b15 | refine Ext.trans ?_ b14 | refine Ext.trans ?_ b13 | refine Ext.trans ?_ b12 | refine Ext.trans ?_ b11 | refine Ext.trans ?_ b10 | refine Ext.trans ?_ b9 | refine Ext.trans ?_ b8 | refine Ext.trans ?_ b7 | refine Ext.trans ?_ b6 | refine Ext.trans ?_ b5 | refine Ext.trans ?_ b4 | refine Ext.trans ?_ b3 | refine Ext.trans ?_ b2 | refine Ext.trans ?_ b1)))).cells
        refine wpAnyH_ready (rs := [13]) (by kernel_rfl) (by simp) ?_
        refine AllReadyH.cons (o := _) rfl (fun K hK => ?_) AllReadyH.nil
        go_simp
        refine hK.out _ _ ((C1.out.ext (show Ext w1 w5 from (by repeat (first | exact Ext.refl _ | refine Ext.trans ?_ (Ext.alloc _ _) | refine Ext.trans ?_ (drew_ext _) | refine Ext.trans ?_ ba | refine Ext.trans ?_ b20 | refine Ext.trans ?_ b19 | refine Ext.trans ?_ b18 | refine Ext.trans ?_ b17 | refine Ext.trans ?_ b16 | refine Ext.trans ?_ b15 | refine Ext.trans ?_ b14 | refine Ext.trans ?_ b13 | refine Ext.trans ?_ b12 | refine Ext.trans ?_ b11 | refine Ext.trans ?_ b10 | refine Ext.trans ?_ b9 | refine Ext.trans ?_ b8 | refine Ext.trans ?_ b7 | refine Ext.trans ?_ b6 | refine Ext.trans ?_ b5 | refine Ext.trans ?_ b4 | refine Ext.trans ?_ b3 | refine Ext.trans ?_ b2 | refine Ext.trans ?_ b1)))).put (c := w3.heap.size) (by have := hsz.out; have := hsq.out; omega) _ _ _) (fun hHeld => ?_)
        clear hK K
        try simp only [Act.put, List.getElem_toArray, List.getElem_cons_succ, List.getElem_cons_zero, List.setIfInBounds_toArray, List.set_cons_zero, List.set_cons_succ]
        refine wpAnyH_take (i := 14) (v := ?_) rfl (by kernel_rfl) (by kernel_rfl) (by kernel_rfl) (fun _ _ _ h => h) (Or.inl ⟨by rfl, fun w0 hSw => ?_⟩) hHeld ?_
        rotate_left
        · (try dsimp only at hSw)
          go_simp
          try with_reducible rfl
        simp only [Act.put, List.getElem_toArray, List.getElem_cons_succ, List.getElem_cons_zero, List.setIfInBounds_toArray, List.set_cons_zero, List.set_cons_succ]
        refine wpAnyH_done (by kernel_rfl) ?_ _
        refine NoPanic.normal ?_
        have hd1 : w1.drew.heap.size = w1.heap.size := rfl
        have h3 := b3.size
        have h4 := b4.size
        have h5 := b5.size
        have ha := ba.size
        have hda : wa.drew.heap.size = wa.heap.size := rfl
        go_wp2_with fail
        go_meet
        exact ⟨rfl, put3_below (by repeat (first | exact Ext.refl _ | refine Ext.trans ?_ (Ext.alloc _ _) | refine Ext.trans ?_ (drew_ext _) | refine Ext.trans ?_ ba | refine Ext.trans ?_ b20 | refine Ext.trans ?_ b19 | refine Ext.trans ?_ b18 | refine Ext.trans ?_ b17 | refine Ext.trans ?_ b16 | refine Ext.trans ?_ b15 | refine Ext.trans ?_ b14 | refine Ext.trans ?_ b13 | refine Ext.trans ?_ b12 | refine Ext.trans ?_ b11 | refine Ext.trans ?_ b10 | refine Ext.trans ?_ b9 | refine Ext.trans ?_ b8 | refine Ext.trans ?_ b7 | refine Ext.trans ?_ b6 | refine Ext.trans ?_ b5 | refine Ext.trans ?_ b4 | refine Ext.trans ?_ b3 | refine Ext.trans ?_ b2 | refine Ext.trans ?_ b1)) hsz.out _ _ _, _, _, _, _, _, rfl, Box3.put_at (RA.out.ext (by repeat (first | exact Ext.refl _ | refine Ext.trans ?_ (Ext.alloc _ _) | refine Ext.trans ?_ (drew_ext _) | refine Ext.trans ?_ ba | refine Ext.trans ?_ b20 | refine Ext.trans ?_ b19 | refine Ext.trans ?_ b18 | refine Ext.trans ?_ b17 | refine Ext.trans ?_ b16 | refine Ext.trans ?_ b15 | refine Ext.trans ?_ b14 | refine Ext.trans ?_ b13 | refine Ext.trans ?_ b12 | refine Ext.trans ?_ b11 | refine Ext.trans ?_ b10 | refine Ext.trans ?_ b9 | refine Ext.trans ?_ b8 | refine Ext.trans ?_ b7 | refine Ext.trans ?_ b6 | refine Ext.trans ?_ b5 | refine Ext.trans ?_ b4 | refine Ext.trans ?_ b3 | refine Ext.trans ?_ b2 | refine Ext.trans ?_ b1))) _ _ _, (ON5.out.put_new (by repeat (first | exact Ext.refl _ | refine Ext.trans ?_ (Ext.alloc _ _) | refine Ext.trans ?_ (drew_ext _) | refine Ext.trans ?_ ba | refine Ext.trans ?_ b20 | refine Ext.trans ?_ b19 | refine Ext.trans ?_ b18 | refine Ext.trans ?_ b17 | refine Ext.trans ?_ b16 | refine Ext.trans ?_ b15 | refine Ext.trans ?_ b14 | refine Ext.trans ?_ b13 | refine Ext.trans ?_ b12 | refine Ext.trans ?_ b11 | refine Ext.trans ?_ b10 | refine Ext.trans ?_ b9 | refine Ext.trans ?_ b8 | refine Ext.trans ?_ b7 | refine Ext.trans ?_ b6 | refine Ext.trans ?_ b5 | refine Ext.trans ?_ b4 | refine Ext.trans ?_ b3 | refine Ext.trans ?_ b2 | refine Ext.trans ?_ b1)) (by omega) _ _ _).rd, (OD5.out.put_new (by repeat (first | exact Ext.refl _ | refine Ext.trans ?_ (Ext.alloc _ _) | refine Ext.trans ?_ (drew_ext _) | refine Ext.trans ?_ ba | refine Ext.trans ?_ b20 | refine Ext.trans ?_ b19 | refine Ext.trans ?_ b18 | refine Ext.trans ?_ b17 | refine Ext.trans ?_ b16 | refine Ext.trans ?_ b15 | refine Ext.trans ?_ b14 | refine Ext.trans ?_ b13 | refine Ext.trans ?_ b12 | refine Ext.trans ?_ b11 | refine Ext.trans ?_ b10 | refine Ext.trans ?_ b9 | refine Ext.trans ?_ b8 | refine Ext.trans ?_ b7 | refine Ext.trans ?_ b6 | refine Ext.trans ?_ b5 | refine Ext.trans ?_ b4 | refine Ext.trans ?_ b3 | refine Ext.trans ?_ b2 | refine Ext.trans ?_ b1)) (by omega) _ _ _).rd⟩
    · skip
      go_simp
      refine hK.out _ _ (C1.out.ext (by repeat (first | exact Ext.refl _ | refine Ext.trans ?_ (Ext.alloc _ _) | refine Ext.trans ?_ (drew_ext _) | refine Ext.trans ?_ ba | refine Ext.trans ?_ b20 | refine Ext.trans ?_ b19 | refine Ext.trans ?_ b18 | refine Ext.trans ?_ b17 | refine Ext.trans ?_ b16 | refine Ext.trans ?_ b15 | refine Ext.trans ?_ b14 | refine Ext.trans ?_ b13 | refine Ext.trans ?_ b12 | refine Ext.trans ?_ b11 | refine Ext.trans ?_ b10 | refine Ext.trans ?_ b9 | refine Ext.trans ?_ b8 | refine Ext.trans ?_ b7 | refine Ext.trans ?_ b6 | refine Ext.trans ?_ b5 | refine Ext.trans ?_ b4 | refine Ext.trans ?_ b3 | refine Ext.trans ?_ b2 | refine Ext.trans ?_ b1))) (fun hHeld => ?_)
      clear hK K
      try simp only [Act.put, List.getElem_toArray, List.getElem_cons_succ, List.getElem_cons_zero, List.setIfInBounds_toArray, List.set_cons_zero, List.set_cons_succ]
      obtain ⟨wa, hwa, ba, ra, za⟩ := boxR w1 (.bool false) (.slice none 0 0) (.slice none 0 0) 36
      rw [← hwa] at hHeld ⊢
      have RA : Hid (Room3 wa w1.heap.size) := ra
      have hsz : Hid (w1.heap.size ≤ w1.heap.size) := Below.size (by repeat (first | exact Ext.refl _ | refine Ext.trans ?_ (Ext.alloc _ _) | refine Ext.trans ?_ (drew_ext _) | refine Ext.trans ?_ ba | refine Ext.trans ?_ b20 | refine Ext.trans ?_ b19 | refine Ext.trans ?_ b18 | refine Ext.trans ?_ b17 | refine Ext.trans ?_ b16 | refine Ext.trans ?_ b15 | refine Ext.trans ?_ b14 | refine Ext.trans ?_ b13 | refine Ext.trans ?_ b12 | refine Ext.trans ?_ b11 | refine Ext.trans ?_ b10 | refine Ext.trans ?_ b9 | refine Ext.trans ?_ b8 | refine Ext.trans ?_ b7 | refine Ext.trans ?_ b6 | refine Ext.trans ?_ b5 | refine Ext.trans ?_ b4 | refine Ext.trans ?_ b3 | refine Ext.trans ?_ b2 | refine Ext.trans ?_ b1))
      have za : wa.heap.size = w1.heap.size + 1 := za
      clear hwa ra
      refine wpAnyH_ready (rs := [4]) (by kernel_rfl) (by simp) ?_
      refine AllReadyH.cons (o := _) rfl (fun K hK => ?_) AllReadyH.nil
      go_simp
      go_at_call 20; refine (few5_any (HA.out.ext (by repeat (first | exact Ext.refl _ | refine Ext.trans ?_ (Ext.alloc _ _) | refine Ext.trans ?_ (drew_ext _) | refine Ext.trans ?_ ba | refine Ext.trans ?_ b20 | refine Ext.trans ?_ b19 | refine Ext.trans ?_ b18 | refine Ext.trans ?_ b17 | refine Ext.trans ?_ b16 | refine Ext.trans ?_ b15 | refine Ext.trans ?_ b14 | refine Ext.trans ?_ b13 | refine Ext.trans ?_ b12 | refine Ext.trans ?_ b11 | refine Ext.trans ?_ b10 | refine Ext.trans ?_ b9 | refine Ext.trans ?_ b8 | refine Ext.trans ?_ b7 | refine Ext.trans ?_ b6 | refine Ext.trans ?_ b5 | refine Ext.trans ?_ b4 | refine Ext.trans ?_ b3 | refine Ext.trans ?_ b2 | refine Ext.trans ?_ b1))) (by omega)).mono ?_; rintro e w3 ⟨v3, rfl, b3, o3⟩; have O3 := Lib.hid o3; clear o3
      go_wp2_with fail
      refine hK.out _ _ (C1.out.ext (by repeat (first | exact Ext.refl _ | refine Ext.trans ?_ (Ext.alloc _ _) | refine Ext.trans ?_ (drew_ext _) | refine Ext.trans ?_ ba | refine Ext.trans ?_ b20 | refine Ext.trans ?_ b19 | refine Ext.trans ?_ b18 | refine Ext.trans ?_ b17 | refine Ext.trans ?_ b16 | refine Ext.trans ?_ b15 | refine Ext.trans ?_ b14 | refine Ext.trans ?_ b13 | refine Ext.trans ?_ b12 | refine Ext.trans ?_ b11 | refine Ext.trans ?_ b10 | refine Ext.trans ?_ b9 | refine Ext.trans ?_ b8 | refine Ext.trans ?_ b7 | refine Ext.trans ?_ b6 | refine Ext.trans ?_ b5 | refine Ext.trans ?_ b4 | refine Ext.trans ?_ b3 | refine Ext.trans ?_ b2 | refine Ext.trans ?_ b1))) (fun hHeld => ?_)
      clear hK K
      try simp only [Act.put, List.getElem_toArray, List.getElem_cons_succ, List.getElem_cons_zero, List.setIfInBounds_toArray, List.set_cons_zero, List.set_cons_succ]
      refine wpAnyH_ready (rs := [7]) (by kernel_rfl) (by simp) ?_
      refine AllReadyH.cons (o := _) rfl (fun K hK => ?_) AllReadyH.nil
      go_simp
      go_at_call 20; refine (few5_any (HB.out.ext (by repeat (first | exact Ext.refl _ | refine Ext.trans ?_ (Ext.alloc _ _) | refine Ext.trans ?_ (drew_ext _) | refine Ext.trans ?_ ba | refine Ext.trans ?_ b20 | refine Ext.trans ?_ b19 | refine Ext.trans ?_ b18 | refine Ext.trans ?_ b17 | refine Ext.trans ?_ b16 | refine Ext.trans ?_ b15 | refine Ext.trans ?_ b14 | refine Ext.trans ?_ b13 | refine Ext.trans ?_ b12 | refine Ext.trans ?_ b11 | refine Ext.trans ?_ b10 | refine Ext.trans ?_ b9 | refine Ext.trans ?_ b8 | refine Ext.trans ?_ b7 | refine Ext.trans ?_ b6 | refine Ext.trans ?_ b5 | refine Ext.trans ?_ b4 | refine Ext.trans ?_ b3 | refine Ext.trans ?_ b2 | refine Ext.trans ?_ b1))) (by omega)).mono ?_; rintro e w4 ⟨v4, rfl, b4, o4⟩; have O4 := Lib.hid o4; clear o4
      go_wp2_with fail
      refine hK.out _ _ (C1.out.ext (by repeat (first | exact Ext.refl _ | refine Ext.trans ?_ (Ext.alloc _ _) | refine Ext.trans ?_ (drew_ext _) | refine Ext.trans ?_ ba | refine Ext.trans ?_ b20 | refine Ext.trans ?_ b19 | refine Ext.trans ?_ b18 | refine Ext.trans ?_ b17 | refine Ext.trans ?_ b16 | refine Ext.trans ?_ b15 | refine Ext.trans ?_ b14 | refine Ext.trans ?_ b13 | refine Ext.trans ?_ b12 | refine Ext.trans ?_ b11 | refine Ext.trans ?_ b10 | refine Ext.trans ?_ b9 | refine Ext.trans ?_ b8 | refine Ext.trans ?_ b7 | refine Ext.trans ?_ b6 | refine Ext.trans ?_ b5 | refine Ext.trans ?_ b4 | refine Ext.trans ?_ b3 | refine Ext.trans ?_ b2 | refine Ext.trans ?_ b1))) (fun hHeld => ?_)
      clear hK K
      try simp only [Act.put, List.getElem_toArray, List.getElem_cons_succ, List.getElem_cons_zero, List.setIfInBounds_toArray, List.set_cons_zero, List.set_cons_succ]
      refine wpAnyH_ready (rs := [8]) (by kernel_rfl) (by simp) ?_
      refine AllReadyH.cons (o := _) rfl (fun K hK => ?_) AllReadyH.nil
      go_simp
      go_at_call 19; refine (make_any (r := r) (O3.out.rd.ext (by repeat (first | exact Ext.refl _ | refine Ext.trans ?_ (Ext.alloc _ _) | refine Ext.trans ?_ (drew_ext _) | refine Ext.trans ?_ ba | refine Ext.trans ?_ b20 | refine Ext.trans ?_ b19 | refine Ext.trans ?_ b18 | refine Ext.trans ?_ b17 | refine Ext.trans ?_ b16 | refine Ext.trans ?_ b15 | refine Ext.trans ?_ b14 | refine Ext.trans ?_ b13 | refine Ext.trans ?_ b12 | refine Ext.trans ?_ b11 | refine Ext.trans ?_ b10 | refine Ext.trans ?_ b9 | refine Ext.trans ?_ b8 | refine Ext.trans ?_ b7 | refine Ext.trans ?_ b6 | refine Ext.trans ?_ b5 | refine Ext.trans ?_ b4 | refine Ext.trans ?_ b3 | refine Ext.trans ?_ b2 | refine Ext.trans ?_ b1))) (O4.out.rd.ext (by repeat (first | exact Ext.refl _ | refine Ext.trans ?_ (Ext.alloc _ _) | refine Ext.trans ?_ (drew_ext _) | refine Ext.trans ?_ ba | refine Ext.trans ?_ b20 | refine Ext.trans ?_ b19 | refine Ext.trans ?_ b18 | refine Ext.trans ?_ b17 | refine Ext.trans ?_ b16 | refine Ext.trans ?_ b15 | refine Ext.trans ?_ b14 | refine Ext.trans ?_ b13 | refine Ext.trans ?_ b12 | refine Ext.trans ?_ b11 | refine Ext.trans ?_ b10 | refine Ext.trans ?_ b9 | refine Ext.trans ?_ b8 | refine Ext.trans ?_ b7 | refine Ext.trans ?_ b6 | refine Ext.trans ?_ b5 | refine Ext.trans ?_ b4 | refine Ext.trans ?_ b3 | refine Ext.trans ?_ b2 | refine Ext.trans ?_ b1))) (by omega) (by omega) H0.out HRR.out).mono ?_; rintro e w5 ⟨_, rfl, b5, _, rfl, n5, d5, rfl, on5, od5⟩; have ON5 := Lib.hid on5; have OD5 := Lib.hid od5; clear on5 od5; obtain ⟨an5, cn5, rfl, -, -, -, -⟩ := ON5.out.rd.1.shape; obtain ⟨ad5, cd5, rfl, -, -, -, -⟩ := OD5.out.rd.1.shape
      go_wp2_with fail
      refine hK.out _ _ (C1.out.ext (by repeat (first | exact Ext.refl _ | refine Ext.trans ?_ (Ext.alloc _ _) | refine Ext.trans ?_ (drew_ext _) | refine Ext.trans ?_ ba | refine Ext.trans ?_ b20 | refine Ext.trans ?_ b19 | refine Ext.trans ?_ b18 | refine Ext.trans ?_ b17 | refine Ext.trans ?_ b16 | refine Ext.trans ?_ b15 | refine Ext.trans ?_ b14 | refine Ext.trans ?_ b13 | refine Ext.trans ?_ b12 | refine Ext.trans ?_ b11 | refine Ext.trans ?_ b10 | refine Ext.trans ?_ b9 | refine Ext.trans ?_ b8 | refine Ext.trans ?_ b7 | refine Ext.trans ?_ b6 | refine Ext.trans ?_ b5 | refine Ext.trans ?_ b4 | refine Ext.trans ?_ b3 | refine Ext.trans ?_ b2 | refine Ext.trans ?_ b1))) (fun hHeld => ?_)
      clear hK K
      try simp only [Act.put, List.getElem_toArray, List.getElem_cons_succ, List.getElem_cons_zero, List.setIfInBounds_toArray, List.set_cons_zero, List.set_cons_succ]
      refine wpAnyH_take (i := 9) (v := ?_) rfl (by kernel_rfl) (by kernel_rfl) (by kernel_rfl) (fun _ _ _ h => h) (Or.inl ⟨by rfl, fun w0 hSw => ?_⟩) hHeld ?_
      rotate_left
      · (try dsimp only at hSw)
        go_simp
        try with_reducible rfl
      simp only [Act.put, List.getElem_toArray, List.getElem_cons_succ, List.getElem_cons_zero, List.setIfInBounds_toArray, List.set_cons_zero, List.set_cons_succ]
      refine wpAnyH_take (i := 10) (v := ?_) rfl (by kernel_rfl) (by kernel_rfl) (by kernel_rfl) (fun _ _ _ h => h) (Or.inl ⟨by rfl, fun w0 hSw => ?_⟩) hHeld ?_
      rotate_left
      · (try dsimp only at hSw)
        go_simp
        try with_reducible rfl
      simp only [Act.put, List.getElem_toArray, List.getElem_cons_succ, List.getElem_cons_zero, List.setIfInBounds_toArray, List.set_cons_zero, List.set_cons_succ]
      refine wpAnyH_take (i := 11) (v := ?_) rfl (by kernel_rfl) (by kernel_rfl) (by kernel_rfl) (fun _ _ _ h => h) (Or.inl ⟨by rfl, fun w0 hSw => ?_⟩) hHeld ?_
      rotate_left
      · (try dsimp only at hSw)
        go_simp
        try with_reducible rfl
      simp only [Act.put, List.getElem_toArray, List.getElem_cons_succ, List.getElem_cons_zero, List.setIfInBounds_toArray, List.set_cons_zero, List.set_cons_succ]
      obtain ⟨_, _, _, j0, j1, j2, g0, g1, g2⟩ := (RA.out.ext (show Ext wa w5 from (by repeat (first | exact Ext.refl _ | refine Ext.trans ?_ (Ext.alloc _ _) | refine Ext.trans ?_ (drew_ext _) | refine Ext.trans ?_ ba | refine Ext.trans ?_ b20 | refine Ext.trans ?_ b19 | refine Ext.trans ?_ b18 | refine Ext.trans ?_ b17 | refine Ext.trans ?_ b16 | refine Ext.trans ?_ b15 | refine Ext.trans ?_ b14 | refine Ext.trans ?_ b13 | refine Ext.trans ?_ b12 | refine Ext.trans ?_ b11 | refine Ext.trans ?_ b10 | refine Ext.trans ?_ b9 | refine Ext.trans ?_ b8 | refine Ext.trans ?_ b7 | refine Ext.trans ?_ b6 | refine Ext.trans ?_ b5 | refine Ext.trans ?_ b4 | refine Ext.trans ?_ b3 | refine Ext.trans ?_ b2 | refine Ext.trans ?_ b1)))).cells
      refine wpAnyH_ready (rs := [13]) (by kernel_rfl) (by simp) ?_
      refine AllReadyH.cons (o := _) rfl (fun K hK => ?_) AllReadyH.nil
      go_simp
      refine hK.out _ _ ((C1.out.ext (show Ext w1 w5 from (by repeat (first | exact Ext.refl _ | refine Ext.trans ?_ (Ext.alloc _ _) | refine Ext.trans ?_ (drew_ext _) | refine Ext.trans ?_ ba | refine Ext.trans ?_ b20 | refine Ext.trans ?_ b19 | refine Ext.trans ?_ b18 | refine Ext.trans ?_ b17 | refine Ext.trans ?_ b16 | refine Ext.trans ?_ b15 | refine Ext.trans ?_ b14 | refine Ext.trans ?_ b13 | refine Ext.trans ?_ b12 | refine Ext.trans ?_ b11 | refine Ext.trans ?_ b10 | refine Ext.trans ?_ b9 | refine Ext.trans ?_ b8 | refine Ext.trans ?_ b7 | refine Ext.trans ?_ b6 | refine Ext.trans ?_ b5 | refine Ext.trans ?_ b4 | refine Ext.trans ?_ b3 | refine Ext.trans ?_ b2 | refine Ext.trans ?_ b1)))).put (c := w1.heap.size) (by have := hsz.out; have := hsq.out; omega) _ _ _) (fun hHeld => ?_)
      clear hK K
      try simp only [Act.put, List.getElem_toArray, List.getElem_cons_succ, List.getElem_cons_zero, List.setIfInBounds_toArray, List.set_cons_zero, List.set_cons_succ]
      refine wpAnyH_take (i := 14) (v := ?_) rfl (by kernel_rfl) (by kernel_rfl) (by kernel_rfl) (fun _ _ _ h => h) (Or.inl ⟨by rfl, fun w0 hSw => ?_⟩) hHeld ?_
      rotate_left
      · (try dsimp only at hSw)
        go_simp
        try with_reducible rfl
      simp only [Act.put, List.getElem_toArray, List.getElem_cons_succ, List.getElem_cons_zero, List.setIfInBounds_toArray, List.set_cons_zero, List.set_cons_succ]
      refine wpAnyH_done (by kernel_rfl) ?_ _
      refine NoPanic.normal ?_
      have hd1 : w1.drew.heap.size = w1.heap.size := rfl
      have h3 := b3.size
      have h4 := b4.size
      have h5 := b5.size
      have ha := ba.size
      have hda : wa.drew.heap.size = wa.heap.size := rfl
      go_wp2_with fail
      go_meet
      exact ⟨rfl, put3_below (by repeat (first | exact Ext.refl _ | refine Ext.trans ?_ (Ext.alloc _ _) | refine Ext.trans ?_ (drew_ext _) | refine Ext.trans ?_ ba | refine Ext.trans ?_ b20 | refine Ext.trans ?_ b19 | refine Ext.trans ?_ b18 | refine Ext.trans ?_ b17 | refine Ext.trans ?_ b16 | refine Ext.trans ?_ b15 | refine Ext.trans ?_ b14 | refine Ext.trans ?_ b13 | refine Ext.trans ?_ b12 | refine Ext.trans ?_ b11 | refine Ext.trans ?_ b10 | refine Ext.trans ?_ b9 | refine Ext.trans ?_ b8 | refine Ext.trans ?_ b7 | refine Ext.trans ?_ b6 | refine Ext.trans ?_ b5 | refine Ext.trans ?_ b4 | refine Ext.trans ?_ b3 | refine Ext.trans ?_ b2 | refine Ext.trans ?_ b1)) hsz.out _ _ _, _, _, _, _, _, rfl, Box3.put_at (RA.out.ext (by repeat (first | exact Ext.refl _ | refine Ext.trans ?_ (Ext.alloc _ _) | refine Ext.trans ?_ (drew_ext _) | refine Ext.trans ?_ ba | refine Ext.trans ?_ b20 | refine Ext.trans ?_ b19 | refine Ext.trans ?_ b18 | refine Ext.trans ?_ b17 | refine Ext.trans ?_ b16 | refine Ext.trans ?_ b15 | refine Ext.trans ?_ b14 | refine Ext.trans ?_ b13 | refine Ext.trans ?_ b12 | refine Ext.trans ?_ b11 | refine Ext.trans ?_ b10 | refine Ext.trans ?_ b9 | refine Ext.trans ?_ b8 | refine Ext.trans ?_ b7 | refine Ext.trans ?_ b6 | refine Ext.trans ?_ b5 | refine Ext.trans ?_ b4 | refine Ext.trans ?_ b3 | refine Ext.trans ?_ b2 | refine Ext.trans ?_ b1))) _ _ _, (ON5.out.put_new (by repeat (first | exact Ext.refl _ | refine Ext.trans ?_ (Ext.alloc _ _) | refine Ext.trans ?_ (drew_ext _) | refine Ext.trans ?_ ba | refine Ext.trans ?_ b20 | refine Ext.trans ?_ b19 | refine Ext.trans ?_ b18 | refine Ext.trans ?_ b17 | refine Ext.trans ?_ b16 | refine Ext.trans ?_ b15 | refine Ext.trans ?_ b14 | refine Ext.trans ?_ b13 | refine Ext.trans ?_ b12 | refine Ext.trans ?_ b11 | refine Ext.trans ?_ b10 | refine Ext.trans ?_ b9 | refine Ext.trans ?_ b8 | refine Ext.trans ?_ b7 | refine Ext.trans ?_ b6 | refine Ext.trans ?_ b5 | refine Ext.trans ?_ b4 | refine Ext.trans ?_ b3 | refine Ext.trans ?_ b2 | refine Ext.trans ?_ b1)) (by omega) _ _ _).rd, (OD5.out.put_new (by repeat (first | exact Ext.refl _ | refine Ext.trans ?_ (Ext.alloc _ _) | refine Ext.trans ?_ (drew_ext _) | refine Ext.trans ?_ ba | refine Ext.trans ?_ b20 | refine Ext.trans ?_ b19 | refine Ext.trans ?_ b18 | refine Ext.trans ?_ b17 | refine Ext.trans ?_ b16 | refine Ext.trans ?_ b15 | refine Ext.trans ?_ b14 | refine Ext.trans ?_ b13 | refine Ext.trans ?_ b12 | refine Ext.trans ?_ b11 | refine Ext.trans ?_ b10 | refine Ext.trans ?_ b9 | refine Ext.trans ?_ b8 | refine Ext.trans ?_ b7 | refine Ext.trans ?_ b6 | refine Ext.trans ?_ b5 | refine Ext.trans ?_ b4 | refine Ext.trans ?_ b3 | refine Ext.trans ?_ b2 | refine Ext.trans ?_ b1)) (by omega) _ _ _).rd⟩
  case rest =>
    obtain ⟨rfl, b6, B, an, cn, ad, cd, rfl, C6, on, od⟩ := hcut
    have RR : Hid (RdQ wc (.agg #[.bool (decide (r.num < 0)), .slice an (limbs r.num.natAbs).length cn, .slice ad (dens r.den).length cd]) r) := ⟨_, _, rfl, on.out, od.out⟩
    clear on od
    generalize Value.slice an (limbs r.num.natAbs).length cn = rn at *
    generalize Value.slice ad (dens r.den).length cd = rd at *
    generalize Value.bool (decide (r.num < 0)) = rs at *
    have b2 := Ext.refl w1
    have b3 := Ext.refl w1
    have b4 := Ext.refl w1
    have b5 := Ext.refl w1
    generalize wc = w6 at *
    by_cases hj0 : j = 0
    · subst hj0
      go_wp2_with fail
      refine rfrac_no.mono ?_
      rintro e w7 ⟨_, rfl, b7, rfl⟩
      obtain ⟨w8, hw, b8, c1, -, -⟩ := box1 w7 (.bool false) (.slice none 0 0) (.slice none 0 0) 36
      have HW := Lib.hid hw
      have C8 := Lib.hid c1
      clear hw c1
      go_upto_region 3 with (fail)
      rw [← HW.out]
      clear HW
      obtain ⟨k0, k1, k2⟩ := C1.out.ext (Ext.trans b2 (Ext.trans b3 (Ext.trans b4 (Ext.trans b5 (Ext.trans b6 (Ext.trans b7 b8))))))
      go_wp2_with fail
      clear k0 k1 k2
      refine (few5_any (HB.out.ext (Ext.trans b1 (Ext.trans b2 (Ext.trans b3 (Ext.trans b4 (Ext.trans b5 (Ext.trans b6 (Ext.trans b7 b8)))))))) (by omega)).mono ?_
      rintro e w9 ⟨v9, rfl, b9, o9⟩
      have O9 := Lib.hid o9
      clear o9
      go_wp2_with fail
      refine (Of_any O9.out.rd (by omega)).mono ?_
      rintro e w10 ⟨v10, rfl, b10, o10⟩
      have O10 := Lib.hid o10
      clear o10
      obtain ⟨a10, c10, rfl, -, -, -, -⟩ := O10.out.rd.shape
      go_upto_region 6 with (fail)
      have D1 := Lib.hid (C1.out.ext (Ext.trans b2 (Ext.trans b3 (Ext.trans b4 (Ext.trans b5 (Ext.trans b6 (Ext.trans b7 (Ext.trans b8 (Ext.trans b9 b10)))))))))
      have D6 := Lib.hid (C6.out.ext (Ext.trans b7 (Ext.trans b8 (Ext.trans b9 b10))))
      have b11 := drew_ext w10
      have XE := b11
      go_region_held3 (fun w' => (w'.cell? ⟨w.heap.size, 0, none⟩ = some (.bool s) ∧ w'.cell? ⟨w.heap.size, 1, none⟩ = some (a) ∧ w'.cell? ⟨w.heap.size, 2, none⟩ = some (b)) ∧ (w'.cell? ⟨B, 0, none⟩ = some (rs) ∧ w'.cell? ⟨B, 1, none⟩ = some (rn) ∧ w'.cell? ⟨B, 2, none⟩ = some (rd))) (exact ⟨D1.out.ext XE, D6.out.ext XE⟩)
        (first
         | (go_at_call 23; refine (is_yes (RR.out.ext (Ext.trans b7 (Ext.trans b8 (Ext.trans b9 (Ext.trans b10 (Ext.trans b11 (Ext.trans b12 (Ext.trans b13 (Ext.trans b14 (Ext.trans b15 b16)))))))))) O16.out.rd (SR.out.le (by decide))).mono ?_; rintro e w17 ⟨_, rfl, b17, rfl⟩; have XE := Ext.trans XE b17)
         | (go_at_call 24; refine (r5of_to (r := r) w10.heap.size ((O13.out.ext (Ext.trans b14 b15)).mono b12.size) (O15.out.mono (Below.size (Ext.trans b11 (Ext.trans b12 (Ext.trans b13 b14))))) (Below.size (Ext.trans b11 (Ext.trans b12 (Ext.trans b13 (Ext.trans b14 b15))))) (by have := blen_nv O12.out.2; omega) (by have := blen_nv O14.out.2; omega) H0.out HRR.out).mono ?_; rintro e w16 ⟨v16, rfl, b16, o16⟩; have O16 := Lib.hid o16; clear o16; have XE := Ext.trans XE b16)
         | (go_at_call 14; refine (Of_any O14.out.rd (by omega)).mono ?_; rintro e w15 ⟨v15, rfl, b15, o15⟩; have O15 := Lib.hid o15; clear o15; have XE := Ext.trans XE b15)
         | (go_at_call 20; refine (few5_any (HB.out.ext (Ext.trans b1 (Ext.trans b2 (Ext.trans b3 (Ext.trans b4 (Ext.trans b5 (Ext.trans b6 (Ext.trans b7 (Ext.trans b8 (Ext.trans b9 (Ext.trans b10 (Ext.trans b11 (Ext.trans b12 b13))))))))))))) (by omega)).mono ?_; rintro e w14 ⟨v14, rfl, b14, o14⟩; have O14 := Lib.hid o14; clear o14; have XE := Ext.trans XE b14)
         | (go_at_call 14; refine (Of_any O12.out.rd (by omega)).mono ?_; rintro e w13 ⟨v13, rfl, b13, o13⟩; have O13 := Lib.hid o13; clear o13; have XE := Ext.trans XE b13)
         | (go_at_call 20; refine (few5_any (HA.out.ext (Ext.trans b1 (Ext.trans b2 (Ext.trans b3 (Ext.trans b4 (Ext.trans b5 (Ext.trans b6 (Ext.trans b7 (Ext.trans b8 (Ext.trans b9 (Ext.trans b10 b11))))))))))) (by omega)).mono ?_; rintro e w12 ⟨v12, rfl, b12, o12⟩; have O12 := Lib.hid o12; clear o12; have XE := Ext.trans XE b12))
      go_wp2_with fail
      refine awake05.mono ?_
      rintro e w18 ⟨_, rfl, b18, rfl⟩
      go_wp2_with fail
      refine (rint_any hi).mono ?_
      rintro e w19 ⟨v19, rfl, b19, o19⟩
      have O19 := Lib.hid o19
      clear o19
      go_wp2_with fail
      refine (r5int_any hi).mono ?_
      rintro e w20 ⟨v20, rfl, b20, o20⟩
      have O20 := Lib.hid o20
      clear o20
      go_wp2_with fail
      refine (is_yes (O19.out.rd.ext b20) O20.out.rd ((Sz.int i hi).le (by decide))).mono ?_
      rintro e w21 ⟨_, rfl, b21, rfl⟩
      go_wp2_with fail
      refine (r5int_any (u := 0) (by omega)).mono ?_
      rintro e w22 ⟨v22, rfl, b22, o22⟩
      rw [Rat.intCast_zero] at o22
      have O22 := Lib.hid o22
      clear o22
      go_wp2_with fail
      refine (is_yes (RdQ.zero w22) O22.out.rd (Sz.zero.le (by decide))).mono ?_
      rintro e w23 ⟨_, rfl, b23, rfl⟩
      go_upto_region 10 with (fail)
      have D8 := Lib.hid (C8.out.ext (Ext.trans b9 (Ext.trans b10 (Ext.trans b11 (Ext.trans b12 (Ext.trans b13 (Ext.trans b14 (Ext.trans b15 (Ext.trans b16 (Ext.trans b17 (Ext.trans b18 (Ext.trans b19 (Ext.trans b20 (Ext.trans b21 (Ext.trans b22 b23)))))))))))))))
      have b24 := drew_ext w23
      have XE := b24
      refine wp_region_noPanic ?_
      refine wp_region_held_drew (S := fun w' => w'.cell? ⟨w7.heap.size, 0, none⟩ = some (.bool false) ∧ w'.cell? ⟨w7.heap.size, 1, none⟩ = some (.slice none 0 0) ∧ w'.cell? ⟨w7.heap.size, 2, none⟩ = some (.slice none 0 0)) (by kernel_rfl) (D8.out.ext XE) (fun hHeld => ?_)
      refine wpAnyH_take (i := 0) (v := ?_) rfl (by kernel_rfl) (by kernel_rfl) (by kernel_rfl) (fun _ _ _ h => h) (Or.inl ⟨by rfl, fun w0 hSw => ?_⟩) hHeld ?_
      rotate_left
      · (try dsimp only at hSw)
        go_simp
        try with_reducible rfl
      simp only [Act.put, List.getElem_toArray, List.getElem_cons_succ, List.getElem_cons_zero, List.setIfInBounds_toArray, List.set_cons_zero, List.set_cons_succ]
      refine wpAnyH_take (i := 1) (v := ?_) rfl (by kernel_rfl) (by kernel_rfl) (by kernel_rfl) (fun _ _ _ h => h) (Or.inl ⟨by rfl, fun w0 hSw => ?_⟩) hHeld ?_
      rotate_left
      · (try dsimp only at hSw)
        go_simp
        try with_reducible rfl
      simp only [Act.put, List.getElem_toArray, List.getElem_cons_succ, List.getElem_cons_zero, List.setIfInBounds_toArray, List.set_cons_zero, List.set_cons_succ]
      refine wpAnyH_take (i := 2) (v := ?_) rfl (by kernel_rfl) (by kernel_rfl) (by kernel_rfl) (fun _ _ _ h => h) (Or.inl ⟨by rfl, fun w0 hSw => ?_⟩) hHeld ?_
      rotate_left
      · (try dsimp only at hSw)
        go_simp
        try with_reducible rfl
      simp only [Act.put, List.getElem_toArray, List.getElem_cons_succ, List.getElem_cons_zero, List.setIfInBounds_toArray, List.set_cons_zero, List.set_cons_succ]
      refine wpAnyH_take (i := 3) (v := ?_) rfl (by kernel_rfl) (by kernel_rfl) (by kernel_rfl) (fun _ _ _ h => h) (Or.inl ⟨by rfl, fun w0 hSw => ?_⟩) hHeld ?_
      rotate_left
      · (try dsimp only at hSw)
        go_simp
        try with_reducible rfl
      simp only [Act.put, List.getElem_toArray, List.getElem_cons_succ, List.getElem_cons_zero, List.setIfInBounds_toArray, List.set_cons_zero, List.set_cons_succ]
      refine wpAnyH_ready (rs := [4]) (by kernel_rfl) (by simp) ?_
      refine AllReadyH.cons (o := _) rfl (fun K hK => ?_) AllReadyH.nil
      go_simp
      go_at_call 22; refine (sign_zero).mono ?_; rintro e w25 ⟨_, rfl, b25, rfl⟩; have XE := Ext.trans XE b25
      go_wp2_with fail
      refine hK.out _ _ (D8.out.ext XE) (fun hHeld => ?_)
      clear hK K
      try simp only [Act.put, List.getElem_toArray, List.getElem_cons_succ, List.getElem_cons_zero, List.setIfInBounds_toArray, List.set_cons_zero, List.set_cons_succ]
      refine wpAnyH_take (i := 5) (v := ?_) rfl (by kernel_rfl) (by kernel_rfl) (by kernel_rfl) (fun _ _ _ h => h) (Or.inl ⟨by rfl, fun w0 hSw => ?_⟩) hHeld ?_
      rotate_left
      · (try dsimp only at hSw)
        go_simp
        try with_reducible rfl
      simp only [Act.put, List.getElem_toArray, List.getElem_cons_succ, List.getElem_cons_zero, List.setIfInBounds_toArray, List.set_cons_zero, List.set_cons_succ]
      refine wpAnyH_take (i := 6) (v := ?_) rfl (by kernel_rfl) (by kernel_rfl) (by kernel_rfl) (fun _ _ _ h => h) (Or.inl ⟨by rfl, fun w0 hSw => ?_⟩) hHeld ?_
      rotate_left
      · (try dsimp only at hSw)
        go_simp
        try with_reducible rfl
      simp only [Act.put, List.getElem_toArray, List.getElem_cons_succ, List.getElem_cons_zero, List.setIfInBounds_toArray, List.set_cons_zero, List.set_cons_succ]
      refine wpAnyH_take (i := 7) (v := ?_) rfl (by kernel_rfl) (by kernel_rfl) (by kernel_rfl) (fun _ _ _ h => h) (Or.inl ⟨by rfl, fun w0 hSw => ?_⟩) hHeld ?_
      rotate_left
      · (try dsimp only at hSw)
        go_simp
        try with_reducible rfl
      simp only [Act.put, List.getElem_toArray, List.getElem_cons_succ, List.getElem_cons_zero, List.setIfInBounds_toArray, List.set_cons_zero, List.set_cons_succ]
      refine wpAnyH_take (i := 8) rfl (by kernel_rfl) (by kernel_rfl) (by kernel_rfl) (fun _ _ _ h => h) (Or.inr ⟨by rfl, rfl⟩) hHeld ?_
      simp only [Act.put, List.getElem_toArray, List.getElem_cons_succ, List.getElem_cons_zero, List.setIfInBounds_toArray, List.set_cons_zero, List.set_cons_succ]
      refine wpAnyH_take (i := 9) rfl (by kernel_rfl) (by kernel_rfl) (by kernel_rfl) (fun _ _ _ h => h) (Or.inr ⟨by rfl, rfl⟩) hHeld ?_
      simp only [Act.put, List.getElem_toArray, List.getElem_cons_succ, List.getElem_cons_zero, List.setIfInBounds_toArray, List.set_cons_zero, List.set_cons_succ]
      refine wpAnyH_take (i := 10) rfl (by kernel_rfl) (by kernel_rfl) (by kernel_rfl) (fun _ _ _ h => h) (Or.inr ⟨by rfl, rfl⟩) hHeld ?_
      simp only [Act.put, List.getElem_toArray, List.getElem_cons_succ, List.getElem_cons_zero, List.setIfInBounds_toArray, List.set_cons_zero, List.set_cons_succ]
      refine wpAnyH_take (i := 11) rfl (by kernel_rfl) (by kernel_rfl) (by kernel_rfl) (fun _ _ _ h => h) (Or.inr ⟨by rfl, rfl⟩) hHeld ?_
      simp only [Act.put, List.getElem_toArray, List.getElem_cons_succ, List.getElem_cons_zero, List.setIfInBounds_toArray, List.set_cons_zero, List.set_cons_succ]
      refine wpAnyH_take (i := 12) rfl (by kernel_rfl) (by kernel_rfl) (by kernel_rfl) (fun _ _ _ h => h) (Or.inr ⟨by rfl, rfl⟩) hHeld ?_
      simp only [Act.put, List.getElem_toArray, List.getElem_cons_succ, List.getElem_cons_zero, List.setIfInBounds_toArray, List.set_cons_zero, List.set_cons_succ]
      refine wpAnyH_take (i := 13) rfl (by kernel_rfl) (by kernel_rfl) (by kernel_rfl) (fun _ _ _ h => h) (Or.inr ⟨by rfl, rfl⟩) hHeld ?_
      simp only [Act.put, List.getElem_toArray, List.getElem_cons_succ, List.getElem_cons_zero, List.setIfInBounds_toArray, List.set_cons_zero, List.set_cons_succ]
      refine wpAnyH_take (i := 14) rfl (by kernel_rfl) (by kernel_rfl) (by kernel_rfl) (fun _ _ _ h => h) (Or.inr ⟨by rfl, rfl⟩) hHeld ?_
      simp only [Act.put, List.getElem_toArray, List.getElem_cons_succ, List.getElem_cons_zero, List.setIfInBounds_toArray, List.set_cons_zero, List.set_cons_succ]
      refine wpAnyH_take (i := 15) rfl (by kernel_rfl) (by kernel_rfl) (by kernel_rfl) (fun _ _ _ h => h) (Or.inr ⟨by rfl, rfl⟩) hHeld ?_
      simp only [Act.put, List.getElem_toArray, List.getElem_cons_succ, List.getElem_cons_zero, List.setIfInBounds_toArray, List.set_cons_zero, List.set_cons_succ]
      refine wpAnyH_take (i := 16) rfl (by kernel_rfl) (by kernel_rfl) (by kernel_rfl) (fun _ _ _ h => h) (Or.inr ⟨by rfl, rfl⟩) hHeld ?_
      simp only [Act.put, List.getElem_toArray, List.getElem_cons_succ, List.getElem_cons_zero, List.setIfInBounds_toArray, List.set_cons_zero, List.set_cons_succ]
      refine wpAnyH_take (i := 17) rfl (by kernel_rfl) (by kernel_rfl) (by kernel_rfl) (fun _ _ _ h => h) (Or.inr ⟨by rfl, rfl⟩) hHeld ?_
      simp only [Act.put, List.getElem_toArray, List.getElem_cons_succ, List.getElem_cons_zero, List.setIfInBounds_toArray, List.set_cons_zero, List.set_cons_succ]
      refine wpAnyH_take (i := 18) rfl (by kernel_rfl) (by kernel_rfl) (by kernel_rfl) (fun _ _ _ h => h) (Or.inr ⟨by rfl, rfl⟩) hHeld ?_
      simp only [Act.put, List.getElem_toArray, List.getElem_cons_succ, List.getElem_cons_zero, List.setIfInBounds_toArray, List.set_cons_zero, List.set_cons_succ]
      refine wpAnyH_take (i := 19) (v := ?_) rfl (by kernel_rfl) (by kernel_rfl) (by kernel_rfl) (fun _ _ _ h => h) (Or.inl ⟨by rfl, fun w0 hSw => ?_⟩) hHeld ?_
      rotate_left
      · (try dsimp only at hSw)
        go_simp
        try with_reducible rfl
      simp only [Act.put, List.getElem_toArray, List.getElem_cons_succ, List.getElem_cons_zero, List.setIfInBounds_toArray, List.set_cons_zero, List.set_cons_succ]
      refine wpAnyH_take (i := 20) (v := ?_) rfl (by kernel_rfl) (by kernel_rfl) (by kernel_rfl) (fun _ _ _ h => h) (Or.inl ⟨by rfl, fun w0 hSw => ?_⟩) hHeld ?_
      rotate_left
      · (try dsimp only at hSw)
        go_simp
        try with_reducible rfl
      simp only [Act.put, List.getElem_toArray, List.getElem_cons_succ, List.getElem_cons_zero, List.setIfInBounds_toArray, List.set_cons_zero, List.set_cons_succ]
      refine wpAnyH_done (by kernel_rfl) ?_ _
      refine NoPanic.normal ?_
      go_wp2_with fail
      exact hR.out _ _ (Gives.mk (Ext.trans b1 (Ext.trans b2 (Ext.trans b3 (Ext.trans b4 (Ext.trans b5 (Ext.trans b6 (Ext.trans b7 (Ext.trans b8 (Ext.trans b9 (Ext.trans b10 (Ext.trans b11 (Ext.trans b12 (Ext.trans b13 (Ext.trans b14 (Ext.trans b15 (Ext.trans b16 (Ext.trans b17 (Ext.trans b18 (Ext.trans b19 (Ext.trans b20 (Ext.trans b21 (Ext.trans b22 (Ext.trans b23 (Ext.trans b24 b25)))))))))))))))))))))))) rfl)
    · have HFR := Lib.hid (@rfrac_any w6 i j hi hj hj0)
      have hne : (j == 0) = false := beqF hj0
      have hne' : (j != 0) = true := by simp [hj0]
      have SF : Hid (Sz 1000000 ((i : Rat) / (j : Rat))) := by rw [Rat.div_def]; exact ((Sz.int i hi).mul (Sz.int j hj).inv).le (by decide)
      have HIV : Hid (∀ {w v}, RdP w v (j : Rat) → Calls Try.prog 29 #[v] w (Gives w fun v' w' => RdP w' v' (j : Rat)⁻¹)) := fun h => r5inv_any h (by rw [Rat.num_intCast]; exact hj0)
      have SV := Lib.hid (Sz.int j hj).inv
      rw [Rat.div_def] at HFR SF
      generalize (j : Rat)⁻¹ = iv at *
      have HMU : Hid (∀ {w va vb}, RdP w va (i : Rat) → RdP w vb iv → Calls Try.prog 28 #[va, vb] w (Gives w fun v' w' => OwnP 4 w.heap.size w' v' ((i : Rat) * iv))) := fun h k => r5mul_any h k ((Sz.int i hi).bits.le (by decide)) (SV.out.bits.le (by decide))
      generalize (i : Rat) * iv = f at *
      clear hj0
      go_wp2_with fail
      refine (HFR.out).mono ?_
      rintro e w7 ⟨_, rfl, b7, _, rfl, n7, d7, rfl, on7, od7⟩
      obtain ⟨an7, cn7, rfl, -, -, -, -⟩ := on7.rd.1.shape
      obtain ⟨ad7, cd7, rfl, -, -, -, -⟩ := od7.rd.1.shape
      obtain ⟨w8, hw, b8, c1, -, -⟩ := box1 w7 (.bool (decide (f.num < 0))) (.slice an7 (limbs f.num.natAbs).length cn7) (.slice ad7 (dens f.den).length cd7) 36
      have HW := Lib.hid hw
      have C8 := Lib.hid c1
      have RF : Hid (RdQ w8 (.agg #[.bool (decide (f.num < 0)), .slice an7 (limbs f.num.natAbs).length cn7, .slice ad7 (dens f.den).length cd7]) f) := ⟨_, _, rfl, on7.rd.ext b8, od7.rd.ext b8⟩
      clear hw c1 on7 od7
      go_upto_region 3 with (fail)
      rw [← HW.out]
      clear HW
      generalize Value.slice an7 (limbs f.num.natAbs).length cn7 = fn at *
      generalize Value.slice ad7 (dens f.den).length cd7 = fd at *
      generalize Value.bool (decide (f.num < 0)) = fs at *
      obtain ⟨k0, k1, k2⟩ := C1.out.ext (Ext.trans b2 (Ext.trans b3 (Ext.trans b4 (Ext.trans b5 (Ext.trans b6 (Ext.trans b7 b8))))))
      go_wp2_with fail
      clear k0 k1 k2
      refine (few5_any (HB.out.ext (Ext.trans b1 (Ext.trans b2 (Ext.trans b3 (Ext.trans b4 (Ext.trans b5 (Ext.trans b6 (Ext.trans b7 b8)))))))) (by omega)).mono ?_
      rintro e w9 ⟨v9, rfl, b9, o9⟩
      have O9 := Lib.hid o9
      clear o9
      go_wp2_with fail
      refine (Of_any O9.out.rd (by omega)).mono ?_
      rintro e w10 ⟨v10, rfl, b10, o10⟩
      have O10 := Lib.hid o10
      clear o10
      obtain ⟨a10, c10, rfl, -, -, -, -⟩ := O10.out.rd.shape
      go_upto_region 6 with (fail)
      have D1 := Lib.hid (C1.out.ext (Ext.trans b2 (Ext.trans b3 (Ext.trans b4 (Ext.trans b5 (Ext.trans b6 (Ext.trans b7 (Ext.trans b8 (Ext.trans b9 b10)))))))))
      have D6 := Lib.hid (C6.out.ext (Ext.trans b7 (Ext.trans b8 (Ext.trans b9 b10))))
      have b11 := drew_ext w10
      have XE := b11
      go_region_held3 (fun w' => (w'.cell? ⟨w.heap.size, 0, none⟩ = some (.bool s) ∧ w'.cell? ⟨w.heap.size, 1, none⟩ = some (a) ∧ w'.cell? ⟨w.heap.size, 2, none⟩ = some (b)) ∧ (w'.cell? ⟨B, 0, none⟩ = some (rs) ∧ w'.cell? ⟨B, 1, none⟩ = some (rn) ∧ w'.cell? ⟨B, 2, none⟩ = some (rd))) (exact ⟨D1.out.ext XE, D6.out.ext XE⟩)
        (first
         | (go_at_call 23; refine (is_yes (RR.out.ext (Ext.trans b7 (Ext.trans b8 (Ext.trans b9 (Ext.trans b10 (Ext.trans b11 (Ext.trans b12 (Ext.trans b13 (Ext.trans b14 (Ext.trans b15 b16)))))))))) O16.out.rd (SR.out.le (by decide))).mono ?_; rintro e w17 ⟨_, rfl, b17, rfl⟩; have XE := Ext.trans XE b17)
         | (go_at_call 24; refine (r5of_to (r := r) w10.heap.size ((O13.out.ext (Ext.trans b14 b15)).mono b12.size) (O15.out.mono (Below.size (Ext.trans b11 (Ext.trans b12 (Ext.trans b13 b14))))) (Below.size (Ext.trans b11 (Ext.trans b12 (Ext.trans b13 (Ext.trans b14 b15))))) (by have := blen_nv O12.out.2; omega) (by have := blen_nv O14.out.2; omega) H0.out HRR.out).mono ?_; rintro e w16 ⟨v16, rfl, b16, o16⟩; have O16 := Lib.hid o16; clear o16; have XE := Ext.trans XE b16)
         | (go_at_call 14; refine (Of_any O14.out.rd (by omega)).mono ?_; rintro e w15 ⟨v15, rfl, b15, o15⟩; have O15 := Lib.hid o15; clear o15; have XE := Ext.trans XE b15)
         | (go_at_call 20; refine (few5_any (HB.out.ext (Ext.trans b1 (Ext.trans b2 (Ext.trans b3 (Ext.trans b4 (Ext.trans b5 (Ext.trans b6 (Ext.trans b7 (Ext.trans b8 (Ext.trans b9 (Ext.trans b10 (Ext.trans b11 (Ext.trans b12 b13))))))))))))) (by omega)).mono ?_; rintro e w14 ⟨v14, rfl, b14, o14⟩; have O14 := Lib.hid o14; clear o14; have XE := Ext.trans XE b14)
         | (go_at_call 14; refine (Of_any O12.out.rd (by omega)).mono ?_; rintro e w13 ⟨v13, rfl, b13, o13⟩; have O13 := Lib.hid o13; clear o13; have XE := Ext.trans XE b13)
         | (go_at_call 20; refine (few5_any (HA.out.ext (Ext.trans b1 (Ext.trans b2 (Ext.trans b3 (Ext.trans b4 (Ext.trans b5 (Ext.trans b6 (Ext.trans b7 (Ext.trans b8 (Ext.trans b9 (Ext.trans b10 b11))))))))))) (by omega)).mono ?_; rintro e w12 ⟨v12, rfl, b12, o12⟩; have O12 := Lib.hid o12; clear o12; have XE := Ext.trans XE b12))
      go_wp2_with fail
      refine awake05.mono ?_
      rintro e w18 ⟨_, rfl, b18, rfl⟩
      go_wp2_with fail
      refine (rint_any hi).mono ?_
      rintro e w19 ⟨v19, rfl, b19, o19⟩
      have O19 := Lib.hid o19
      clear o19
      go_wp2_with fail
      refine (r5int_any hi).mono ?_
      rintro e w20 ⟨v20, rfl, b20, o20⟩
      have O20 := Lib.hid o20
      clear o20
      go_wp2_with fail
      refine (is_yes (O19.out.rd.ext b20) O20.out.rd ((Sz.int i hi).le (by decide))).mono ?_
      rintro e w21 ⟨_, rfl, b21, rfl⟩
      go_wp2_with fail
      refine (r5int_any (u := 0) (by omega)).mono ?_
      rintro e w22 ⟨v22, rfl, b22, o22⟩
      rw [Rat.intCast_zero] at o22
      have O22 := Lib.hid o22
      clear o22
      go_wp2_with fail
      refine (is_yes (RdQ.zero w22) O22.out.rd (Sz.zero.le (by decide))).mono ?_
      rintro e w23 ⟨_, rfl, b23, rfl⟩
      go_upto_region 10 with (fail)
      have D8 := Lib.hid (C8.out.ext (Ext.trans b9 (Ext.trans b10 (Ext.trans b11 (Ext.trans b12 (Ext.trans b13 (Ext.trans b14 (Ext.trans b15 (Ext.trans b16 (Ext.trans b17 (Ext.trans b18 (Ext.trans b19 (Ext.trans b20 (Ext.trans b21 (Ext.trans b22 b23)))))))))))))))
      have b24 := drew_ext w23
      have XE := b24
      refine wp_region_noPanic ?_
      refine wp_region_held_drew (S := fun w' => w'.cell? ⟨w7.heap.size, 0, none⟩ = some (fs) ∧ w'.cell? ⟨w7.heap.size, 1, none⟩ = some (fn) ∧ w'.cell? ⟨w7.heap.size, 2, none⟩ = some (fd)) (by kernel_rfl) (D8.out.ext XE) (fun hHeld => ?_)
      refine wpAnyH_take (i := 0) (v := ?_) rfl (by kernel_rfl) (by kernel_rfl) (by kernel_rfl) (fun _ _ _ h => h) (Or.inl ⟨by rfl, fun w0 hSw => ?_⟩) hHeld ?_
      rotate_left
      · (try dsimp only at hSw)
        go_simp
        try with_reducible rfl
      simp only [Act.put, List.getElem_toArray, List.getElem_cons_succ, List.getElem_cons_zero, List.setIfInBounds_toArray, List.set_cons_zero, List.set_cons_succ]
      refine wpAnyH_take (i := 1) (v := ?_) rfl (by kernel_rfl) (by kernel_rfl) (by kernel_rfl) (fun _ _ _ h => h) (Or.inl ⟨by rfl, fun w0 hSw => ?_⟩) hHeld ?_
      rotate_left
      · (try dsimp only at hSw)
        go_simp
        try with_reducible rfl
      simp only [Act.put, List.getElem_toArray, List.getElem_cons_succ, List.getElem_cons_zero, List.setIfInBounds_toArray, List.set_cons_zero, List.set_cons_succ]
      refine wpAnyH_take (i := 2) (v := ?_) rfl (by kernel_rfl) (by kernel_rfl) (by kernel_rfl) (fun _ _ _ h => h) (Or.inl ⟨by rfl, fun w0 hSw => ?_⟩) hHeld ?_
      rotate_left
      · (try dsimp only at hSw)
        go_simp
        try with_reducible rfl
      simp only [Act.put, List.getElem_toArray, List.getElem_cons_succ, List.getElem_cons_zero, List.setIfInBounds_toArray, List.set_cons_zero, List.set_cons_succ]
      refine wpAnyH_take (i := 3) rfl (by kernel_rfl) (by kernel_rfl) (by kernel_rfl) (fun _ _ _ h => h) (Or.inr ⟨by rfl, rfl⟩) hHeld ?_
      simp only [Act.put, List.getElem_toArray, List.getElem_cons_succ, List.getElem_cons_zero, List.setIfInBounds_toArray, List.set_cons_zero, List.set_cons_succ]
      refine wpAnyH_take (i := 4) rfl (by kernel_rfl) (by kernel_rfl) (by kernel_rfl) (fun _ _ _ h => h) (Or.inr ⟨by rfl, rfl⟩) hHeld ?_
      simp only [Act.put, List.getElem_toArray, List.getElem_cons_succ, List.getElem_cons_zero, List.setIfInBounds_toArray, List.set_cons_zero, List.set_cons_succ]
      refine wpAnyH_take (i := 5) rfl (by kernel_rfl) (by kernel_rfl) (by kernel_rfl) (fun _ _ _ h => h) (Or.inr ⟨by rfl, rfl⟩) hHeld ?_
      simp only [Act.put, List.getElem_toArray, List.getElem_cons_succ, List.getElem_cons_zero, List.setIfInBounds_toArray, List.set_cons_zero, List.set_cons_succ]
      refine wpAnyH_take (i := 6) (v := ?_) rfl (by kernel_rfl) (by kernel_rfl) (by kernel_rfl) (fun _ _ _ h => h) (Or.inl ⟨by rfl, fun w0 hSw => ?_⟩) hHeld ?_
      rotate_left
      · (try dsimp only at hSw)
        go_simp
        try with_reducible rfl
      simp only [Act.put, List.getElem_toArray, List.getElem_cons_succ, List.getElem_cons_zero, List.setIfInBounds_toArray, List.set_cons_zero, List.set_cons_succ]
      refine wpAnyH_take (i := 7) (v := ?_) rfl (by kernel_rfl) (by kernel_rfl) (by kernel_rfl) (fun _ _ _ h => h) (Or.inl ⟨by rfl, fun w0 hSw => ?_⟩) hHeld ?_
      rotate_left
      · (try dsimp only at hSw)
        go_simp
        try with_reducible rfl
      simp only [Act.put, List.getElem_toArray, List.getElem_cons_succ, List.getElem_cons_zero, List.setIfInBounds_toArray, List.set_cons_zero, List.set_cons_succ]
      refine wpAnyH_take (i := 8) (v := ?_) rfl (by kernel_rfl) (by kernel_rfl) (by kernel_rfl) (fun _ _ _ h => h) (Or.inl ⟨by rfl, fun w0 hSw => ?_⟩) hHeld ?_
      rotate_left
      · (try dsimp only at hSw)
        go_simp
        try with_reducible rfl
      simp only [Act.put, List.getElem_toArray, List.getElem_cons_succ, List.getElem_cons_zero, List.setIfInBounds_toArray, List.set_cons_zero, List.set_cons_succ]
      refine wpAnyH_take (i := 9) (v := ?_) rfl (by kernel_rfl) (by kernel_rfl) (by kernel_rfl) (fun _ _ _ h => h) (Or.inl ⟨by rfl, fun w0 hSw => ?_⟩) hHeld ?_
      rotate_left
      · (try dsimp only at hSw)
        go_simp
        try with_reducible rfl
      simp only [Act.put, List.getElem_toArray, List.getElem_cons_succ, List.getElem_cons_zero, List.setIfInBounds_toArray, List.set_cons_zero, List.set_cons_succ]
      refine wpAnyH_take (i := 10) (v := ?_) rfl (by kernel_rfl) (by kernel_rfl) (by kernel_rfl) (fun _ _ _ h => h) (Or.inl ⟨by rfl, fun w0 hSw => ?_⟩) hHeld ?_
      rotate_left
      · (try dsimp only at hSw)
        go_simp
        try with_reducible rfl
      simp only [Act.put, List.getElem_toArray, List.getElem_cons_succ, List.getElem_cons_zero, List.setIfInBounds_toArray, List.set_cons_zero, List.set_cons_succ]
      refine wpAnyH_take (i := 11) (v := ?_) rfl (by kernel_rfl) (by kernel_rfl) (by kernel_rfl) (fun _ _ _ h => h) (Or.inl ⟨by rfl, fun w0 hSw => ?_⟩) hHeld ?_
      rotate_left
      · (try dsimp only at hSw)
        go_simp
        try with_reducible rfl
      simp only [Act.put, List.getElem_toArray, List.getElem_cons_succ, List.getElem_cons_zero, List.setIfInBounds_toArray, List.set_cons_zero, List.set_cons_succ]
      refine wpAnyH_take (i := 13) (v := ?_) rfl (by kernel_rfl) (by kernel_rfl) (by kernel_rfl) (fun _ _ _ h => h) (Or.inl ⟨by rfl, fun w0 hSw => ?_⟩) hHeld ?_
      rotate_left
      · (try dsimp only at hSw)
        go_simp
        try with_reducible rfl
      simp only [Act.put, List.getElem_toArray, List.getElem_cons_succ, List.getElem_cons_zero, List.setIfInBounds_toArray, List.set_cons_zero, List.set_cons_succ]
      refine wpAnyH_ready (rs := [12]) (by kernel_rfl) (by simp) ?_
      refine AllReadyH.cons (o := _) rfl (fun K hK => ?_) AllReadyH.nil
      go_simp
      go_at_call 27; refine (r5int_any hi).mono ?_; rintro e w25 ⟨v25, rfl, b25, o25⟩; have O25 := Lib.hid o25; clear o25; have XE := Ext.trans XE b25
      go_wp2_with fail
      refine hK.out _ _ (D8.out.ext XE) (fun hHeld => ?_)
      clear hK K
      try simp only [Act.put, List.getElem_toArray, List.getElem_cons_succ, List.getElem_cons_zero, List.setIfInBounds_toArray, List.set_cons_zero, List.set_cons_succ]
      refine wpAnyH_ready (rs := [14]) (by kernel_rfl) (by simp) ?_
      refine AllReadyH.cons (o := _) rfl (fun K hK => ?_) AllReadyH.nil
      go_simp
      go_at_call 27; refine (r5int_any hj).mono ?_; rintro e w26 ⟨v26, rfl, b26, o26⟩; have O26 := Lib.hid o26; clear o26; have XE := Ext.trans XE b26
      go_wp2_with fail
      refine hK.out _ _ (D8.out.ext XE) (fun hHeld => ?_)
      clear hK K
      try simp only [Act.put, List.getElem_toArray, List.getElem_cons_succ, List.getElem_cons_zero, List.setIfInBounds_toArray, List.set_cons_zero, List.set_cons_succ]
      refine wpAnyH_ready (rs := [15]) (by kernel_rfl) (by simp) ?_
      refine AllReadyH.cons (o := _) rfl (fun K hK => ?_) AllReadyH.nil
      go_simp
      go_at_call 29; refine (HIV.out O26.out.rd).mono ?_; rintro e w27 ⟨v27, rfl, b27, o27⟩; have O27 := Lib.hid o27; clear o27; have XE := Ext.trans XE b27
      go_wp2_with fail
      refine hK.out _ _ (D8.out.ext XE) (fun hHeld => ?_)
      clear hK K
      try simp only [Act.put, List.getElem_toArray, List.getElem_cons_succ, List.getElem_cons_zero, List.setIfInBounds_toArray, List.set_cons_zero, List.set_cons_succ]
      refine wpAnyH_ready (rs := [16]) (by kernel_rfl) (by simp) ?_
      refine AllReadyH.cons (o := _) rfl (fun K hK => ?_) AllReadyH.nil
      go_simp
      go_at_call 28; refine (HMU.out (O25.out.rd.ext (Ext.trans b26 b27)) O27.out).mono ?_; rintro e w28 ⟨v28, rfl, b28, o28⟩; have O28 := Lib.hid o28; clear o28; have XE := Ext.trans XE b28
      go_wp2_with fail
      refine hK.out _ _ (D8.out.ext XE) (fun hHeld => ?_)
      clear hK K
      try simp only [Act.put, List.getElem_toArray, List.getElem_cons_succ, List.getElem_cons_zero, List.setIfInBounds_toArray, List.set_cons_zero, List.set_cons_succ]
      refine wpAnyH_ready (rs := [17]) (by kernel_rfl) (by simp) ?_
      refine AllReadyH.cons (o := _) rfl (fun K hK => ?_) AllReadyH.nil
      go_simp
      go_at_call 23; refine (is_yes (RF.out.ext (Ext.trans b9 (Ext.trans b10 (Ext.trans b11 (Ext.trans b12 (Ext.trans b13 (Ext.trans b14 (Ext.trans b15 (Ext.trans b16 (Ext.trans b17 (Ext.trans b18 (Ext.trans b19 (Ext.trans b20 (Ext.trans b21 (Ext.trans b22 (Ext.trans b23 (Ext.trans b24 (Ext.trans b25 (Ext.trans b26 (Ext.trans b27 b28)))))))))))))))))))) O28.out.rd SF.out).mono ?_; rintro e w29 ⟨_, rfl, b29, rfl⟩; have XE := Ext.trans XE b29
      go_wp2_with fail
      refine hK.out _ _ (D8.out.ext XE) (fun hHeld => ?_)
      clear hK K
      try simp only [Act.put, List.getElem_toArray, List.getElem_cons_succ, List.getElem_cons_zero, List.setIfInBounds_toArray, List.set_cons_zero, List.set_cons_succ]
      refine wpAnyH_take (i := 18) (v := ?_) rfl (by kernel_rfl) (by kernel_rfl) (by kernel_rfl) (fun _ _ _ h => h) (Or.inl ⟨by rfl, fun w0 hSw => ?_⟩) hHeld ?_
      rotate_left
      · (try dsimp only at hSw)
        go_simp
        try with_reducible rfl
      simp only [Act.put, List.getElem_toArray, List.getElem_cons_succ, List.getElem_cons_zero, List.setIfInBounds_toArray, List.set_cons_zero, List.set_cons_succ]
      refine wpAnyH_take (i := 19) (v := ?_) rfl (by kernel_rfl) (by kernel_rfl) (by kernel_rfl) (fun _ _ _ h => h) (Or.inl ⟨by rfl, fun w0 hSw => ?_⟩) hHeld ?_
      rotate_left
      · (try dsimp only at hSw)
        go_simp
        try with_reducible rfl
      simp only [Act.put, List.getElem_toArray, List.getElem_cons_succ, List.getElem_cons_zero, List.setIfInBounds_toArray, List.set_cons_zero, List.set_cons_succ]
      refine wpAnyH_take (i := 20) (v := ?_) rfl (by kernel_rfl) (by kernel_rfl) (by kernel_rfl) (fun _ _ _ h => h) (Or.inl ⟨by rfl, fun w0 hSw => ?_⟩) hHeld ?_
      rotate_left
      · (try dsimp only at hSw)
        go_simp
        try with_reducible rfl
      simp only [Act.put, List.getElem_toArray, List.getElem_cons_succ, List.getElem_cons_zero, List.setIfInBounds_toArray, List.set_cons_zero, List.set_cons_succ]
      refine wpAnyH_done (by kernel_rfl) ?_ _
      refine NoPanic.normal ?_
      go_wp2_with fail
      exact hR.out _ _ (Gives.mk (Ext.trans b1 (Ext.trans b2 (Ext.trans b3 (Ext.trans b4 (Ext.trans b5 (Ext.trans b6 (Ext.trans b7 (Ext.trans b8 (Ext.trans b9 (Ext.trans b10 (Ext.trans b11 (Ext.trans b12 (Ext.trans b13 (Ext.trans b14 (Ext.trans b15 (Ext.trans b16 (Ext.trans b17 (Ext.trans b18 (Ext.trans b19 (Ext.trans b20 (Ext.trans b21 (Ext.trans b22 (Ext.trans b23 (Ext.trans b24 (Ext.trans b25 (Ext.trans b26 (Ext.trans b27 (Ext.trans b28 b29)))))))))))))))))))))))))))) rfl)
end Go.Proofs.Ytjnbhinjpinkaaa.ratMakes
