/- The comparison of values with bounds: plain. -/
import Derived.Test.YthpaifdfafjlcaaGreatTabAll
import Derived.Test.YthpaifdfafjlcaaGreatR8All
namespace Go.Proofs.YthpaifdfafjlcaaGreat
open Go.RowKit Go.Att Go.Sx

theorem cmpD_pos {a b c d:Rat}:0 < cmpD a b c d↔Ps (a - c) (b - d):=by
 unfold cmpD Ps
 by_cases h:(a - c).num.sign=0
 ·rw [if_pos h]
  have h1:a - c=0:=num_sign_zero.1 h
  rw [sggt]
  constructor
  ·intro h2;exact .inr ⟨h1,h2⟩
  ·rintro (h2 | ⟨_,h2⟩)
   ·rw [h1] at h2;exact absurd h2 (by decide)
   ·exact h2
 ·rw [if_neg h,sggt]
  constructor
  ·intro h2;exact .inl h2
  ·rintro (h2 | ⟨h2,_⟩)
   ·exact h2
   ·exact absurd (num_sign_zero.2 h2) h
theorem cmpD_neg {a b c d:Rat}:cmpD a b c d < 0↔Ps (c - a) (d - b):=by
 have h1:∀ x y:Rat,(x - y).num.sign = -(y - x).num.sign:=fun x y=>by rw [← Int.sign_neg,← Rat.neg_num,Rat.neg_sub]
 have h2:cmpD a b c d = -cmpD c d a b:=by
  unfold cmpD
  rw [h1 a c,h1 b d]
  by_cases h:(c - a).num.sign=0
  ·rw [if_pos (by omega),if_pos h]
  ·rw [if_neg (by omega),if_neg h]
 rw [h2,← cmpD_pos]
 omega
theorem over_iff {n0:Nat} {L:List AT} {s:Stand} {v:Nat}:0 < cmpD (s.a v) (s.b v) ((bnd n0 L).hA v) ((bnd n0 L).hB v)↔Over (bnd n0 L) s v:=cmpD_pos
theorem under_iff {n0:Nat} {L:List AT} {s:Stand} {v:Nat}:(cmpD (s.a v) (s.b v) ((bnd n0 L).hA v) ((bnd n0 L).hB v) < 0∧(gt L (v - n0)).2=3)↔Under (bnd n0 L) s v:=by
 unfold Under
 rw [← cmpD_neg]
 show _∧_↔decide ((gt L (v - n0)).2=3)=true∧_
 rw [decide_eq_true_eq]
 exact And.comm
theorem cmpD_same {a b c d:Rat} (h1:a=c) (h2:b=d):cmpD a b c d=0:=by
 have h3:¬ 0 < cmpD a b c d:=fun h=>by
  rw [cmpD_pos,h1,h2] at h
  unfold Ps at h
  grind
 have h4:¬ cmpD a b c d < 0:=fun h=>by
  rw [cmpD_neg,h1,h2] at h
  unfold Ps at h
  grind
 omega
end Go.Proofs.YthpaifdfafjlcaaGreat
