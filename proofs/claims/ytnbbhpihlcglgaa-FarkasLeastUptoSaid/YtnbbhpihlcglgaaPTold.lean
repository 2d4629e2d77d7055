/- attestlaw05.Told, attestlaw08.Of, attestlaw17.Of -/
import Derived.Test.YtnbbhpihlcglgaaRowAll
import Derived.Test.YtnbbhpihlcglgaaRatAll
import Derived.Test.YtnbbhpihlcglgaaPBoth05
import Derived.Test.YtnbbhpihlcglgaaRef5All
namespace Go.Proofs.Ytnbbhpihlcglgaa
open Go.RowKit Go.Att

theorem told_any {w : World} {v : Value} {q : Rat} (hq : RdQ w v q) (sq : Sz 1000000 q) :
    Calls Try.prog 25 #[v] w (Gives w fun v' w' => OwnP 4 w.heap.size w' v' q) := by
  refine via fun R hR => ?_
  have HQ := Lib.hid hq
  have SQ := Lib.hid sq
  have SB := Lib.hid sq.bits
  obtain ⟨n, d, rfl, -, -⟩ := hq
  obtain ⟨w1, hw1, b1, c1, -, -, r2, -⟩ := bx2 w [.bool (decide (q.num < 0)), n, d] [.bool false, .slice none 0 0, .slice none 0 0] 32 46
  obtain ⟨k0, k1, k2⟩ := c1.c3
  have R2 : Hid (Room3 w1 (w.heap.size + 1)) := r2.room3
  have hz := Lib.hid r2.lt
  have HW := Lib.hid hw1
  have hl : (((bitsOf q.den).length : Int) == 0) = false := beqF (by have := bits_len_pos.2 q.den_pos; omega)
  have HSELF : Hid (mkQ (decide (q.num < 0)) q.num.natAbs q.den = q) := mkQ_self q
  clear sq c1 r2 hw1
  go_enter Try.func25, Try.ntmps25
  go_upto_region 1 with (fail)
  rw [← HW.out]
  clear HW
  go_wp2_with fail
  clear k0 k1 k2
  refine (parts_any (HQ.out.ext b1) SQ.out.1 SQ.out.2).mono ?_
  rintro e w2 ⟨_, rfl, b2, v2, v3, rfl, o2, o3⟩
  have O2 := Lib.hid o2
  have OD := Lib.hid o3
  clear o2 o3
  go_wp2_with fail
  refine (Of_any OD.out.rd (by have := SQ.out.2; omega)).mono ?_
  rintro e w3 ⟨v4, rfl, b3, o4⟩
  rw [nv_limbs] at o4
  obtain ⟨a4, c4, rfl, -, -, -, -⟩ := o4.rd.shape
  clear o4
  go_wp2_with fail
  refine (Of_any (O2.out.rd.ext b3) (by have := SQ.out.1; omega)).mono ?_
  rintro e w4 ⟨v5, rfl, b4, o5⟩
  rw [nv_limbs] at o5
  have O5 := Lib.hid o5
  clear o5
  go_wp2_with fail
  refine (Of_any (OD.out.rd.ext (Ext.trans b3 b4)) (by have := SQ.out.2; omega)).mono ?_
  rintro e w5 ⟨v6, rfl, b5, o6⟩
  rw [nv_limbs] at o6
  have O6 := Lib.hid o6
  clear o6
  have z1 : w3.heap.size ≤ w4.heap.size := Below.size b4
  have z2 : w4.heap.size ≤ w5.heap.size := Below.size b5
  go_wp2_with fail
  refine (HSELF.out ▸ r5of_any (B := w3.heap.size) (s := decide (q.num < 0)) (n := q.num.natAbs) (d := q.den) (by omega) (O5.out.ext b5) (O6.out.mono (by omega)) (by have := SB.out.1; omega) (by have := SB.out.2; omega) q.den_nz).mono ?_
  rintro e w6 ⟨_, rfl, b6, n7, d7, rfl, on, od⟩
  obtain ⟨an, cn, rfl, -, -, -, -⟩ := on.rd.shape
  obtain ⟨ad, cd, rfl, -, -, -, -⟩ := od.rd.shape
  have ON := Lib.hid on
  have OD7 := Lib.hid od
  obtain ⟨_, _, _, j0, j1, j2, g0, g1, g2⟩ := (R2.out.ext (Ext.trans b2 (Ext.trans b3 (Ext.trans b4 (Ext.trans b5 b6))))).cells
  clear on od
  go_wp2_with fail
  refine bodyPost_ret (v := .agg #[.bool (decide (q.num < 0)), .slice an (bitsOf q.num.natAbs).length cn, .slice ad (bitsOf q.den).length cd]) (by simp [results, Try.results25, go_sem, j0, j1, j2]) rfl ?_
  have hs := (Ext.trans b2 b3).size
  exact hR.out _ _ (Gives.mk (put3_below (Ext.trans b1 (Ext.trans b2 (Ext.trans b3 (Ext.trans b4 (Ext.trans b5 b6))))) (by omega) _ _ _) ⟨_, _, rfl, (OwnB.put3 ON.out (Ext.refl _) (by have := hz.out; omega) _ _ _).mono (by have := hz.out; omega), (OwnB.put3 OD7.out (Ext.refl _) (by have := hz.out; omega) _ _ _).mono (by have := hz.out; omega)⟩)

theorem of8_any {w : World} {v : Value} {s : Bool} {xs ys : List Nat} (hv : RdN w v s xs ys) (hx : xs.length ≤ 1000000000) (hy : ys.length ≤ 1000000000) :
    Calls Try.prog 18 #[v] w (Gives w fun v' w' => OwnQ 163 w.heap.size w' v' (qOf s xs ys)) := by
  refine via fun R hR => ?_
  have HV := Lib.hid hv
  have HB : Hid (∀ {w v}, RdN w v s xs ys → Calls Try.prog 82 #[v] w (Gives w fun v' w' => ∃ o1 o2, v' = .tuple #[o1, o2] ∧ OwnQ 163 w.heap.size w' o1 (qOf s xs ys) ∧ OwnP 4 w.heap.size w' o2 (qOf s xs ys))) := fun h => both_any h hx hy
  generalize qOf s xs ys = q at *
  obtain ⟨y1, y2, rfl, -, -⟩ := hv
  obtain ⟨w1, hw1, b1, c1, -, -, r2, -⟩ := bx2 w [.bool s, y1, y2] [.bool false, .slice none 0 0, .slice none 0 0] 25 32
  obtain ⟨k0, k1, k2⟩ := c1.c3
  have R2 : Hid (Room3 w1 (w.heap.size + 1)) := r2.room3
  have hz := Lib.hid r2.lt
  have HW := Lib.hid hw1
  clear c1 r2 hw1
  go_enter Try.func18, Try.ntmps18
  go_upto_region 1 with (fail)
  rw [← HW.out]
  clear HW
  go_wp2_with fail
  clear k0 k1 k2
  refine (HB.out (HV.out.ext b1)).mono ?_
  rintro e w2 ⟨_, rfl, b2, _, _, rfl, ⟨n, d, rfl, on, od⟩, ⟨m, c, rfl, om, oc⟩⟩
  obtain ⟨an, cn, rfl, -, -, -, -⟩ := on.rd.1.shape
  obtain ⟨ad, cd, rfl, -, -, -, -⟩ := od.rd.1.shape
  obtain ⟨am, cm, rfl, -, -, -, -⟩ := om.rd.shape
  obtain ⟨ac, cc, rfl, -, -, -, -⟩ := oc.rd.shape
  obtain ⟨w3, hw, b3, c1, -, -, -, -⟩ := bx2 w2 [.bool (decide (q.num < 0)), .slice an (limbs q.num.natAbs).length cn, .slice ad (dens q.den).length cd] [.bool (decide (q.num < 0)), .slice am (bitsOf q.num.natAbs).length cm, .slice ac (bitsOf q.den).length cc] 32 46
  have HW := Lib.hid hw
  have ON := Lib.hid on
  have OD := Lib.hid od
  obtain ⟨k0, k1, k2⟩ := c1.c3
  obtain ⟨_, _, _, j0, j1, j2, g0, g1, g2⟩ := (R2.out.ext (Ext.trans b2 b3)).cells
  clear hw c1 on od om oc
  go_upto_region 2 with (fail)
  rw [← HW.out]
  clear HW
  go_wp2_with fail
  refine bodyPost_ret (v := .agg #[.bool (decide (q.num < 0)), .slice an (limbs q.num.natAbs).length cn, .slice ad (dens q.den).length cd]) (by simp [results, Try.results18, go_sem, j0, j1, j2]) rfl ?_
  exact hR.out _ _ (Gives.mk (put3_below (Ext.trans b1 (Ext.trans b2 b3)) (by omega) _ _ _) ⟨_, _, rfl, (ON.out.put_new b3 (by have := hz.out; omega) _ _ _).mono (by have := hz.out; omega), (OD.out.put_new b3 (by have := hz.out; omega) _ _ _).mono (by have := hz.out; omega)⟩)

end Go.Proofs.Ytnbbhpihlcglgaa
