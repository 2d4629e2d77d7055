/- A group of texts: Sx8, FarkLaw, Sx9, Tab, RowSet, RowPut, TabO, TabB, SxI -/
import Derived.Test.YthpaifdfafjlcaaGreatSxAll
import Derived.Test.YthpaifdfafjlcaaGreatAtomAll
import Derived.Test.YthpaifdfafjlcaaGreatR8All
import Derived.Test.YthpaifdfafjlcaaGreatLinPlain
import Derived.Test.YthpaifdfafjlcaaGreatLinAll
import Derived.Deep.MidRow
import Derived.Test.YthpaifdfafjlcaaGreatRowAll
import Derived.Test.YthpaifdfafjlcaaGreatBuildS
namespace Go.Proofs.YthpaifdfafjlcaaGreat
open Go.RowKit Go.Att Go.Sx

theorem Fk9_lt:Fk (2 ^ 131) 9 < W32 ^ 40:=by decide +kernel
theorem Fk9_sz {q:Rat} (h:q.num.natAbs≤Fk (2 ^ 131) 9∧q.den≤Fk (2 ^ 131) 9):Sz 40 q:=⟨(limbs_len _ _).2 (Nat.lt_of_le_of_lt h.1 Fk9_lt),(limbs_len _ _).2 (Nat.lt_of_le_of_lt h.2 Fk9_lt)⟩
def cfs (L:List AT) (i j:Nat):Rat:=cf (gt L i).1.1 (j:Int)
def bnd (n0:Nat) (L:List AT):Bnd:=⟨n0+L.length,n0,fun v => -(gt L (v - n0)).1.2,fun v=>if (gt L (v - n0)).2=2 then -1 else 0,fun v=>decide ((gt L (v - n0)).2=3)⟩
def std0 (n0:Nat) (L:List AT):Stand:=⟨D0 n0 (cfs L),fun _=>0,fun _=>0⟩
theorem std0_ok (n0:Nat) (L:List AT):(std0 n0 L).Ok (bnd n0 L):=by
 have hz:Sol (n0+L.length) (D0 n0 (cfs L)) fun _=>0:=D0_sol.2 fun i _=>(sm_zero fun j _=>Rat.mul_zero _).symm
 refine ⟨D0_nz _ _ _,hz,hz,fun v h0 _ bv=>?_⟩
 have:(D0 n0 (cfs L)).B v=true:=by simp only [D0];exact decide_eq_true h0
 exact absurd (show (D0 n0 (cfs L)).B v=false from bv) (by rw [this];decide)
theorem cnt_all {n:Nat} {b:Nat→Bool} (h:∀ i,i < n→b i=true):cnt n b=n:=by
 induction n with
 | zero=>rfl
 | succ n ih=>show cnt n b+(if b n=true then 1 else 0)=n+1;rw [ih fun i hi=>h i (by omega),if_pos (h n (by omega))]
theorem cnt_no {n:Nat} {b:Nat→Bool} (h:∀ i,i < n→b i=false):cnt n b=0:=by
 induction n with
 | zero=>rfl
 | succ n ih=>show cnt n b+(if b n=true then 1 else 0)=0;rw [ih fun i hi=>h i (by omega),if_neg (by rw [h n (by omega)];decide)]
theorem std0_cnt (n0:Nat) (L:List AT):cnt (n0+L.length) (std0 n0 L).D.B=L.length:=by
 have h1:cnt n0 (std0 n0 L).D.B=0:=cnt_no fun i hi=>(decide_eq_false (by omega):decide (n0≤i)=false)
 have h2:(cnt L.length fun i=>(std0 n0 L).D.B (n0+i))=L.length:=cnt_all fun i _=>(decide_eq_true (by omega):decide (n0≤n0+i)=true)
 rw [cnt_split,h1,h2,Nat.zero_add]
def Tame (a:AT):Prop:=∃ d:Rat,d≠0∧Zb (2 ^ 131) d∧(∀ x,Zb (2 ^ 131) (d*cf a.1.1 x))∧Zb (2 ^ 131) (d*a.1.2)
theorem tame_rows {n0:Nat} {L:List AT} (h:∀ a∈L,Tame a):∃ d,RowsZ L.length n0 (2 ^ 131) (cfs L) d∧∀ i,i < L.length→Zb (2 ^ 131) (d i*(gt L i).1.2):=by
 have h2:∀ i,∃ d:Rat,i < L.length→d≠0∧Zb (2 ^ 131) d∧(∀ x,Zb (2 ^ 131) (d*cf (gt L i).1.1 x))∧Zb (2 ^ 131) (d*(gt L i).1.2):=fun i=>by
  by_cases hi:i < L.length
  ·obtain ⟨d,hd⟩:=h (gt L i) (by rw [gt_lt hi];exact List.getElem_mem hi)
   exact ⟨d,fun _=>hd⟩
  ·exact ⟨0,fun h=>absurd h hi⟩
 refine ⟨fun i=>Classical.choose (h2 i),⟨fun i hi=>(Classical.choose_spec (h2 i) hi).1,fun i hi=>(Classical.choose_spec (h2 i) hi).2.1,fun i j hi _=>(Classical.choose_spec (h2 i) hi).2.2.1 _⟩,fun i hi=>(Classical.choose_spec (h2 i) hi).2.2.2⟩
theorem run_small {n0:Nat} {L:List AT} (h:∀ a∈L,Tame a) (hm:L.length≤8∨n0≤8) {n:Nat} {s:Stand} (hr:Run (bnd n0 L) (std0 n0 L) n s):
  (∀ v j,v < n0+L.length→s.D.B v=true→j < n0+L.length→Sz 40 (s.D.A v j))∧(∀ v,v < n0+L.length→Sz 40 (s.a v)∧Sz 40 (s.b v)):=by
 obtain ⟨d,R,hd⟩:=tame_rows (n0:=n0) h
 obtain ⟨hok,hsol,hcnt⟩:=hr.ok (std0_ok n0 L)
 have hz:=hr.zero fun j _=>⟨rfl,rfl⟩
 have hc:cnt n0 s.D.B≤8:=by
  rcases hm with hm | hm
  ·have h1:cnt (n0+L.length) s.D.B=L.length:=hcnt.trans (std0_cnt n0 L)
   rw [cnt_split] at h1
   omega
  ·exact Nat.le_trans (cnt_le _ _) hm
 have hF:Fk (2 ^ 131) (cnt n0 s.D.B+1)≤Fk (2 ^ 131) 9:=Fk_mono (by decide) (by omega)
 have up:∀ {q:Rat},(q.num.natAbs≤Fk (2 ^ 131) (cnt n0 s.D.B+1)∧q.den≤Fk (2 ^ 131) (cnt n0 s.D.B+1))→Sz 40 q:=fun h=>Fk9_sz ⟨Nat.le_trans h.1 hF,Nat.le_trans h.2 hF⟩
 have hH:1≤2 ^ 131:=by decide
 have hzb:∀ i,i < L.length→Zb (2 ^ 131) (d i * -(gt L i).1.2):=fun i hi=>by
  rw [show d i * -(gt L i).1.2 = -(d i*(gt L i).1.2) by grind];exact (hd i hi).neg
 have hzs:∀ i,i < L.length→Zb (2 ^ 131) (d i*if (gt L i).2=2 then -1 else 0):=fun i hi=>by
  split
  ·rw [show d i * -1 = -d i by grind];exact (R.zd i hi).neg
  ·rw [Rat.mul_zero];exact Zb.zero _
 have szh:∀ i,i < L.length→Sz 40 (-(gt L i).1.2)∧Sz 40 (if (gt L i).2=2 then (-1:Rat) else 0):=fun i hi=>by
  have h9:∀ q,Zb (2 ^ 131) (d i*q)→Sz 40 q:=fun q hq=>by
   have:=quot_zb (r:=q) hq (R.zd i hi) (R.ne i hi) (Rat.mul_comm _ _)
   have h8:2 ^ 131≤Fk (2 ^ 131) 9:=by decide +kernel
   exact Fk9_sz ⟨Nat.le_trans this.1 h8,Nat.le_trans this.2 h8⟩
  exact ⟨h9 _ (hzb i hi),h9 _ (hzs i hi)⟩
 refine ⟨fun v j hv bv hj=>up (small_row R hH hok.1 hsol hv bv hj),fun v hv=>?_⟩
 by_cases bv:s.D.B v=true
 ·exact ⟨up (small_val R hH hok.1 hsol hok.2.1 (h:=fun i => -(gt L i).1.2) (fun j hj bj=>(hz j hj bj).1) (fun i hi bi=>by
   have:=(hok.2.2.2 (n0+i) (Nat.le_add_right _ _) (Nat.add_lt_add_left hi _) bi).1
   rw [this]
   show -(gt L (n0+i - n0)).1.2=_
   rw [Nat.add_sub_cancel_left]) hzb hv bv),up (small_val R hH hok.1 hsol hok.2.2.1 (h:=fun i=>if (gt L i).2=2 then -1 else 0) (fun j hj bj=>(hz j hj bj).2) (fun i hi bi=>by
   have:=(hok.2.2.2 (n0+i) (Nat.le_add_right _ _) (Nat.add_lt_add_left hi _) bi).2
   rw [this]
   show (if (gt L (n0+i - n0)).2=2 then (-1:Rat) else 0)=_
   rw [Nat.add_sub_cancel_left]) hzs hv bv)⟩
 ·have bv:s.D.B v=false:=by simpa using bv
  by_cases h0:v < n0
  ·rw [(hz v h0 bv).1,(hz v h0 bv).2];exact ⟨Sz.zero.le (by decide),Sz.zero.le (by decide)⟩
  ·obtain ⟨e1,e2⟩:=hok.2.2.2 v (Nat.not_lt.1 h0) hv bv
   rw [e1,e2]
   exact szh (v - n0) (by omega)
theorem smv_sm (F:Int→Rat):∀ (P:List Rat) (k:Nat),smv F P k=sm P.length fun j=>F ((k+j:Nat):Int)*gt P j
 | [],_=>rfl
 | p :: P,k=>by
  show F k*p+smv F P (k+1)=_
  rw [smv_sm F P (k+1),show (p :: P).length=1+P.length by simp;omega,sm_split]
  show _=(0+F ((k+0:Nat):Int)*p)+_
  rw [Rat.zero_add,Nat.add_zero]
  congr 1
  refine sm_congr fun i _=>?_
  rw [show k+1+i=k+(1+i) by omega,show gt (p :: P) (1+i)=gt P i from by rw [Nat.add_comm];rfl]
theorem point_holds {n0:Nat} {L:List AT} {n:Nat} {s:Stand} (hr:Run (bnd n0 L) (std0 n0 L) n s) (hop:∀ a∈L,1≤a.2∧a.2≤3) (hno:∀ r g,¬ Pick (bnd n0 L) s r g) {e:Rat} (h0:0 < e)
  (he:∀ i,i < L.length→s.a (n0+i)+e*s.b (n0+i)≤(bnd n0 L).hA (n0+i)+e*(bnd n0 L).hB (n0+i)) {P:List Rat} (hP:P.length=n0) (hpt:∀ j,j < n0→gt P j=s.a j+e*s.b j):
  ∀ a∈L,says a.2 (a.1.2+smv (cf a.1.1) P 0)=true:=by
 obtain ⟨hok,hsol,-⟩:=hr.ok (std0_ok n0 L)
 have hnb:∀ u,n0≤u→u < n0+L.length→s.D.B u=true→¬ Over (bnd n0 L) s u∧¬ Under (bnd n0 L) s u:=by
  intro u
  induction u using Nat.strongRecOn with
  | _ u ih=>
   intro h1 h2 bu
   have least:∀ y,n0≤y→y < u→s.D.B y=true→¬ Over (bnd n0 L) s y∧¬ Under (bnd n0 L) s y:=fun y a1 a2 a3=>ih y a2 a1 (by omega) a3
   exact ⟨fun h=>hno u true ⟨h1,h2,bu,by rw [if_pos rfl];exact h,least⟩,fun h=>hno u false ⟨h1,h2,bu,by rw [if_neg (by decide)];exact h,least⟩⟩
 intro a ha
 obtain ⟨i,hi,rfl⟩:=List.getElem_of_mem ha
 obtain ⟨h1,h2⟩:=answer_point (m:=L.length) (n0:=n0) (c:=cfs L) (P:=bnd n0 L) rfl rfl hok (fun x=>(hsol x).1) hnb he i hi
 have e1:smv (cf L[i].1.1) P 0=sm n0 fun j=>cfs L i j*(s.a j+e*s.b j):=by
  rw [smv_sm,hP]
  refine sm_congr fun j hj=>?_
  rw [hpt j hj,Nat.zero_add]
  unfold cfs
  rw [gt_lt hi]
 have e2:(bnd n0 L).hA (n0+i) = -L[i].1.2:=by
  show -(gt L (n0+i - n0)).1.2=_
  rw [Nat.add_sub_cancel_left,gt_lt hi]
 have e3:(bnd n0 L).hB (n0+i)=if L[i].2=2 then -1 else 0:=by
  show (if (gt L (n0+i - n0)).2=2 then (-1:Rat) else 0)=_
  rw [Nat.add_sub_cancel_left,gt_lt hi]
 have e4:(bnd n0 L).eq (n0+i)=decide (L[i].2=3):=by
  show decide ((gt L (n0+i - n0)).2=3)=_
  rw [Nat.add_sub_cancel_left,gt_lt hi]
 rw [e1]
 generalize (sm n0 fun j=>cfs L i j*(s.a j+e*s.b j))=q at*
 rw [e2,e3,e4] at*
 have ho:=hop _ ha
 have hsg:∀ t:Rat,says L[i].2 t=true↔(t=0∧L[i].2≠2∨t < 0∧L[i].2≠3):=by
  intro t
  have h3:t.num.sign=0↔t=0:=num_sign_zero
  have h4:t.num.sign < 0↔t < 0:=by
   rw [Int.sign_neg_iff]
   have:=Rat.num_nonneg (q:=t)
   constructor
   ·intro h;exact Rat.not_le.1 fun h2=>by have:=this.2 h2;omega
   ·intro h;exact Int.not_le.1 fun h2=>absurd (this.1 h2) (Rat.not_le.2 h)
  unfold says
  simp only [Bool.or_eq_true,Bool.and_eq_true,beq_iff_eq,bne_iff_ne,decide_eq_true_eq,h3,h4]
 rw [hsg]
 by_cases h3:L[i].2=3
 ·left
  have:=h2 (decide_eq_true h3)
  rw [if_neg (by omega)] at this
  exact ⟨by grind,by omega⟩
 ·by_cases h5:L[i].2=2
  ·right
   rw [if_pos h5] at h1
   exact ⟨by grind,h3⟩
  ·rw [if_neg h5] at h1
   have h6:L[i].1.2+q≤0:=by grind
   by_cases h7:L[i].1.2+q=0
   ·exact .inl ⟨h7,h5⟩
   ·exact .inr ⟨by grind,h3⟩
open Go.RowKit Go.Att

theorem sgge {q:Rat}:0≤q.num.sign↔0≤q:=by rw [Int.sign_nonneg_iff];exact Rat.num_nonneg
theorem sgle {q:Rat}:q.num.sign≤0↔q≤0:=by
 have h1:0≤(0 - q).num↔0≤0 - q:=Rat.num_nonneg
 rw [Rat.le_iff_sub_nonneg q 0,← h1,show (0 - q).num = -q.num by rw [Rat.sub_eq_add_neg,Rat.zero_add,Rat.neg_num],Int.sign_nonpos_iff]
 omega
theorem sglt {q:Rat}:q.num.sign < 0↔q < 0:=by
 rw [← Rat.not_le,← sgge]
 omega
theorem sggt {q:Rat}:0 < q.num.sign↔0 < q:=by
 rw [← Rat.not_le,← sgle]
 omega
def av (P:List Rat) (a:AT):Rat:=a.1.2+smv (cf a.1.1) P 0
def tot (P:List Rat):List AZ→Rat
 | []=>0
 | z :: l=>z.2*av P z.1+tot P l
theorem tot_eq (P:List Rat) (l:List AZ):tot P l=fct l+smv (fcf l) P 0:=by
 induction l with
 | nil=>show (0:Rat)=0+smv (fun _=>0) P 0;rw [smv_zero,Rat.add_zero]
 | cons z l ih=>
  show z.2*(z.1.1.2+smv (cf z.1.1.1) P 0)+tot P l=(z.2*z.1.1.2+fct l)+smv (fun x=>z.2*cf z.1.1.1 x+fcf l x) P 0
  rw [smv_add,smv_mul,ih]
  grind
theorem neg_of {t v:Rat} (ht:0≤t) (hv:v≤0):t*v≤0:=by
 have h:=Rat.mul_nonneg ht (show 0 ≤ -v by grind)
 grind
theorem neg_of' {t v:Rat} (ht:0 < t) (hv:v < 0):t*v < 0:=by
 have h:=Rat.mul_pos ht (show 0 < -v by grind)
 grind
theorem one_le {P:List Rat} {z:AZ} (hb:fbad z=false) (hh:holdA z.1 P=true):z.2*av P z.1≤0∧((z.1.2 == 2 && decide (0 < z.2.num.sign))=true→z.2*av P z.1 < 0):=by
 obtain ⟨⟨⟨l,c⟩,op⟩,t⟩:=z
 unfold fbad at hb
 rw [Bool.or_eq_false_iff] at hb
 obtain ⟨h1,h2⟩:=hb
 have h3:1≤op∧op≤3:=by simpa using h1
 change says op (av P ((l,c),op))=true at hh
 show t*av P ((l,c),op)≤0∧((op == 2 && decide (0 < t.num.sign))=true→t*av P ((l,c),op) < 0)
 generalize av P ((l,c),op)=v at*
 unfold says at hh
 change (op != 3 && decide (t.num.sign < 0))=false at h2
 have h4:op=1∨op=2∨op=3:=by omega
 rcases h4 with rfl | rfl | rfl
 ·have ht:0≤t:=by
   have:¬ t.num.sign < 0:=by simpa using h2
   exact sgge.1 (by omega)
  have hv:v≤0:=by
   have:v.num.sign=0∨v.num.sign < 0:=by simpa using hh
   exact sgle.1 (by omega)
  exact ⟨neg_of ht hv,fun h=>by simp at h⟩
 ·have ht:0≤t:=by
   have:¬ t.num.sign < 0:=by simpa using h2
   exact sgge.1 (by omega)
  have hv:v < 0:=by
   have:v.num.sign < 0:=by simpa using hh
   exact sglt.1 this
  refine ⟨neg_of ht (by grind),fun h=>?_⟩
  have h5:0 < t.num.sign:=by simpa using h
  exact neg_of' (sggt.1 h5) hv
 ·have hv:v=0:=by
   have:v.num.sign=0:=by simpa using hh
   exact num_sign_zero.1 this
  rw [hv,Rat.mul_zero]
  exact ⟨Rat.le_refl,fun h=>by simp at h⟩
theorem tot_le {P:List Rat}:∀ {l:List AZ},(∀ z∈l,fbad z=false)→(∀ z∈l,holdA z.1 P=true)→tot P l≤0∧(fst' l=true→tot P l < 0)
 | [],_,_=>⟨Rat.le_refl,fun h=>by cases h⟩
 | z :: l,hb,hh=>by
  have h1:=one_le (hb z List.mem_cons_self) (hh z List.mem_cons_self)
  have h2:=tot_le (l:=l) (fun y hy=>hb y (List.mem_cons_of_mem _ hy)) (fun y hy=>hh y (List.mem_cons_of_mem _ hy))
  show z.2*av P z.1+tot P l≤0∧(((z.1.2 == 2 && decide (0 < z.2.num.sign)) || fst' l)=true→z.2*av P z.1+tot P l < 0)
  refine ⟨by have:=h1.1;have:=h2.1;grind,fun h=>?_⟩
  rw [Bool.or_eq_true] at h
  rcases h with h | h
  ·have:=h1.2 h;have:=h2.1;grind
  ·have:=h1.1;have:=h2.2 h;grind
theorem farkas_sound {L:List AT} {T P:List Rat} {e:Int} (h:RefV L T true e) (hh:∀ a∈L,holdA a P=true∧1≤a.2∧a.2≤3):False:=by
 unfold RefV at h
 by_cases h1:L.length=T.length
 ·rw [if_neg (fun h=>h h1)] at h
  by_cases h2:(L.zip T).any fbad=true
  ·rw [if_pos h2] at h;exact absurd h.1 (by decide)
  ·rw [if_neg h2] at h
   obtain ⟨h3,h4⟩:=h.2.1 rfl
   have hb:∀ z∈L.zip T,fbad z=false:=fun z hz=>by
    by_cases hb:fbad z=true
    ·exact absurd (List.any_eq_true.2 ⟨z,hz,hb⟩) h2
    ·simpa using hb
   have h5:=tot_le (P:=P) hb (fun z hz=>(hh _ (List.of_mem_zip hz).1).1)
   rw [tot_eq,smv_congr h3,smv_zero,Rat.add_zero] at h5
   rcases h4 with h4 | ⟨h4,h6⟩
   ·have:=sggt.1 h4
    have:=h5.1
    grind
   ·have h7:=num_sign_zero.1 h4
    have:=h5.2 h6
    rw [h7] at this
    exact absurd this Rat.lt_irrefl
 ·rw [if_pos h1] at h;exact absurd h.1 (by decide)
open Go.RowKit Go.Att Go.Sx

def tab {α:Type} (n:Nat) (f:Nat→α):List α:=(List.range n).map f
theorem tab_len {α:Type} (n:Nat) (f:Nat→α):(tab n f).length=n:=by unfold tab;rw [List.length_map,List.length_range]
theorem tab_get {α:Type} {n:Nat} {f:Nat→α} {i:Nat} (h:i < (tab n f).length):(tab n f)[i]=f i:=by simp only [tab,List.getElem_map,List.getElem_range]
theorem tab_gt {α:Type} [Inhabited α] {n:Nat} {f:Nat→α} {i:Nat} (h:i < n):gt (tab n f) i=f i:=by
 have h2:i < (tab n f).length:=by rw [tab_len];exact h
 rw [gt_lt h2,tab_get]
theorem tab_congr {α:Type} {n:Nat} {f g:Nat→α} (h:∀ i,i < n→f i=g i):tab n f=tab n g:=List.map_congr_left fun i hi=>h i (List.mem_range.1 hi)
theorem tab_set {α:Type} {n:Nat} {f:Nat→α} {i:Nat} (x:α):(tab n f).set i x=tab n fun j=>if j=i then x else f j:=by
 refine List.ext_getElem (by rw [List.length_set,tab_len,tab_len]) fun k h1 h2=>?_
 rw [List.getElem_set,tab_get,tab_get]
 by_cases e:i=k
 ·rw [if_pos e,if_pos e.symm]
 ·rw [if_neg e,if_neg (Ne.symm e)]
theorem tab_succ {α:Type} (n:Nat) (f:Nat→α):tab (n+1) f=tab n f ++ [f n]:=by unfold tab;rw [List.range_succ,List.map_append];rfl
theorem zip_tab (L:List AT) (T:Nat→Rat):L.zip (tab L.length T)=tab L.length fun i=>(gt L i,T i):=by
 refine List.ext_getElem (by rw [List.length_zip,tab_len,tab_len,Nat.min_self]) fun k h1 h2=>?_
 rw [List.getElem_zip,tab_get,tab_get,gt_lt]
theorem fcf_tab (Z:Nat→AZ) (n:Nat) (x:Int):fcf (tab n Z) x=sm n fun i=>(Z i).2*cf (Z i).1.1.1 x:=by
 induction n with
 | zero=>rfl
 | succ n ih=>rw [tab_succ,fcf_app,ih,fcf_one];rfl
theorem fct_tab (Z:Nat→AZ) (n:Nat):fct (tab n Z)=sm n fun i=>(Z i).2*(Z i).1.1.2:=by
 induction n with
 | zero=>rfl
 | succ n ih=>rw [tab_succ,fct_app,ih,fct_one];rfl
theorem fst_tab {Z:Nat→AZ} {n i:Nat} (hi:i < n) (h:(Z i).1.2=2∧0 < (Z i).2):fst' (tab n Z)=true:=by
 induction n with
 | zero=>omega
 | succ n ih=>
  rw [tab_succ,fst_app,Bool.or_eq_true]
  by_cases e:i=n
  ·subst e
   right
   rw [fst_one,h.1,decide_eq_true (sggt.2 h.2)]
   rfl
  ·exact .inl (ih (by omega))
def tims (n0:Nat) (L:List AT) (s:Stand) (v:Nat) (g:Bool):List Rat:=tab L.length (tim n0 s v g)
theorem times_refute {n0:Nat} {L:List AT} {n:Nat} {s:Stand} (hr:Run (bnd n0 L) (std0 n0 L) n s) (hop:∀ a∈L,1≤a.2∧a.2≤3) (hvar:∀ a∈L,∀ t∈a.1.1,0≤t.1∧t.1 < n0) {v:Nat} {g:Bool} (hp:Pick (bnd n0 L) s v g) (hh:∀ k,¬ Help (bnd n0 L) s v g k):
  (∀ x,fcf (L.zip (tims n0 L s v g)) x=0)∧(0 < (fct (L.zip (tims n0 L s v g))).num.sign∨(fct (L.zip (tims n0 L s v g))).num.sign=0∧fst' (L.zip (tims n0 L s v g))=true)∧∀ z∈L.zip (tims n0 L s v g),fbad z=false:=by
 obtain ⟨hok,hsol,-⟩:=hr.ok (std0_ok n0 L)
 have hno:∀ k,k < n0+L.length→s.D.B k=false→¬ CanH (bnd n0 L) s v g k:=by
  intro k
  induction k using Nat.strongRecOn with
  | _ k ih=>exact fun h1 h2 h3=>hh k ⟨h1,h2,h3,fun j h4 h5=>ih j h4 (by omega) h5⟩
 obtain ⟨h1,h2,h3⟩:=answer_times (m:=L.length) (n0:=n0) (c:=cfs L) (P:=bnd n0 L) rfl rfl hok (fun x=>(hsol x).2) hp.hr hp.hrN hp.br hp.over hno
 have e2:∀ i,(bnd n0 L).hA (n0+i) = -(gt L i).1.2:=fun i=>by
  show -(gt L (n0+i - n0)).1.2=_
  rw [Nat.add_sub_cancel_left]
 have e3:∀ i,(bnd n0 L).hB (n0+i)=if (gt L i).2=2 then -1 else 0:=fun i=>by
  show (if (gt L (n0+i - n0)).2=2 then (-1:Rat) else 0)=_
  rw [Nat.add_sub_cancel_left]
 have e4:∀ i,(bnd n0 L).eq (n0+i)=decide ((gt L i).2=3):=fun i=>by
  show decide ((gt L (n0+i - n0)).2=3)=_
  rw [Nat.add_sub_cancel_left]
 unfold tims
 rw [zip_tab]
 refine ⟨fun x=>?_,?_,fun z hz=>?_⟩
 ·rw [fcf_tab]
  by_cases hx:0≤x∧x < n0
  ·have:=h1 x.toNat (by omega)
   rw [← this]
   refine sm_congr fun i _=>?_
   show _*cf (gt L i).1.1 x=_*cf (gt L i).1.1 (x.toNat:Int)
   rw [show ((x.toNat:Nat):Int)=x by omega]
  ·refine sm_zero fun i hi=>?_
   show _*cf (gt L i).1.1 x=0
   rw [cf_none fun t ht=>?_,Rat.mul_zero]
   have:=hvar (gt L i) (by rw [gt_lt hi];exact List.getElem_mem hi) t ht
   omega
 ·have hc:fct (tab L.length fun i=>(gt L i,tim n0 s v g i)) = -(sm L.length fun i=>tim n0 s v g i*(bnd n0 L).hA (n0+i)):=by
   rw [fct_tab,show -(sm L.length fun i=>tim n0 s v g i*(bnd n0 L).hA (n0+i))=(-1:Rat)*sm L.length fun i=>tim n0 s v g i*(bnd n0 L).hA (n0+i) by grind,← sm_mul]
   refine sm_congr fun i _=>?_
   rw [e2]
   show tim n0 s v g i*(gt L i).1.2=_
   grind
  rw [hc]
  rcases h3 with h3 | ⟨h3,h4⟩
  ·exact .inl (sggt.2 h3)
  ·right
   refine ⟨num_sign_zero.2 h3,?_⟩
   have hex:∃ i,i < L.length∧(gt L i).2=2∧0 < tim n0 s v g i:=by
    refine Classical.byContradiction fun hn=>?_
    have h5:0≤sm L.length fun i=>tim n0 s v g i*(bnd n0 L).hB (n0+i):=sm_pos fun i hi=>by
     rw [e3]
     split
     ·next h6=>
      have h7:¬ 0 < tim n0 s v g i:=fun h=>hn ⟨i,hi,h6,h⟩
      grind
     ·rw [Rat.mul_zero];exact Rat.le_refl
    grind
   obtain ⟨i,h5,h6,h7⟩:=hex
   exact fst_tab h5 ⟨h6,h7⟩
 ·obtain ⟨i,hi,rfl⟩:=List.mem_map.1 hz
  rw [List.mem_range] at hi
  have ho:=hop (gt L i) (by rw [gt_lt hi];exact List.getElem_mem hi)
  show (!(decide (1≤(gt L i).2∧(gt L i).2≤3)) || ((gt L i).2 != 3 && decide ((tim n0 s v g i).num.sign < 0)))=false
  rw [decide_eq_true ho]
  by_cases h5:(gt L i).2=3
  ·rw [h5];rfl
  ·have h6:=h2 i hi (by rw [e4];exact decide_eq_false h5)
   rw [decide_eq_false (by have:=sgge.2 h6;omega)]
   simp
theorem refuted_no {L:List AT} {T P:List Rat} (hl:L.length=T.length) (h1:∀ x,fcf (L.zip T) x=0) (h2:0 < (fct (L.zip T)).num.sign∨(fct (L.zip T)).num.sign=0∧fst' (L.zip T)=true) (h3:∀ z∈L.zip T,fbad z=false)
  (hh:∀ a∈L,says a.2 (a.1.2+smv (cf a.1.1) P 0)=true∧1≤a.2∧a.2≤3):False:=by
 refine farkas_sound (L:=L) (T:=T) (P:=P) (e:=0) ?_ hh
 unfold RefV
 rw [if_neg (fun h=>h hl),if_neg fun h=>?_]
 ·exact ⟨rfl,fun _=>⟨h1,h2⟩,fun _=>rfl⟩
 ·obtain ⟨z,hz,hb⟩:=List.any_eq_true.1 h
  rw [h3 z hz] at hb
  cases hb
end Go.Proofs.YthpaifdfafjlcaaGreat

namespace Go.Att
open Go.RowKit

theorem RdRow.od {e:TypeId} {w:World} {a:Option Addr} {n c:Nat} {l:List (Rat × Rat)} (h:RdRow 6 (OwnDp e) w (.slice a n c) l) (i:Nat) (hi:i < l.length):
  ∃ b off s x k m y k' m' t x2 k2 m2 y2 k2' m2',a=some ⟨b,off,none⟩∧Bo w b (off+i*6) [.bool s,.slice x k m,.slice y k' m',.bool t,.slice x2 k2 m2,.slice y2 k2' m2']∧OwnD e 0 w (.agg #[.bool s,.slice x k m,.slice y k' m',.bool t,.slice x2 k2 m2,.slice y2 k2' m2']) (gt l i).1 (gt l i).2:=by
 obtain ⟨b1,o1,cs,he,hl,hT,hc⟩:=h.at (by decide) i hi
 obtain ⟨s,x,k,m,y,k',m',t,x2,k2,m2,y2,k2',m2',h1,h2⟩:=OwnD.op hT
 have:cs=[.bool s,.slice x k m,.slice y k' m',.bool t,.slice x2 k2 m2,.slice y2 k2' m2']:=by simpa using h1
 subst this
 exact ⟨b1,o1,s,x,k,m,y,k',m',t,x2,k2,m2,y2,k2',m2',he,Bo.of hc,by rw [gt_lt hi];exact h2.out⟩
def RowE (e:TypeId) (w:World) (v:Value) (l:List Rat):Prop:=∃ a k,v=.agg #[.slice a l.length k]∧RdRow 3 (OwnQp e) w (.slice a l.length k) l
theorem RowE.ext {e:TypeId} {w w':World} {v:Value} {l:List Rat} (h:RowE e w v l) (x:Ext w w'):RowE e w' v l:=by
 obtain ⟨a,k,rfl,h⟩:=h
 exact ⟨a,k,rfl,h.ext OwnQ.ext x⟩
theorem RdRow.orow {e:TypeId} {w:World} {a:Option Addr} {n c:Nat} {l:List (List Rat)} (h:RdRow 1 (RowE e) w (.slice a n c) l) (i:Nat) (hi:i < l.length):
  ∃ b off x k,a=some ⟨b,off,none⟩∧w.cell? ⟨b,off+i,none⟩=some (.slice x l[i].length k)∧RdRow 3 (OwnQp e) w (.slice x l[i].length k) l[i]:=by
 obtain ⟨b1,o1,cs,he,hl,⟨x,k,hv,hr⟩,hc⟩:=h.at (by decide) i hi
 have:cs=[.slice x l[i].length k]:=by simpa using hv
 subst this
 have h0:=hc 0 (by decide)
 exact ⟨b1,o1,x,k,he,by simpa using h0,hr⟩
theorem Bo.c1 {w:World} {b o:Nat} {x0:Value} {l:List Value} (h:Bo w b o (x0 :: l)):w.cell? ⟨b,o,none⟩=some x0:=h 0 _ rfl
theorem Bo.one {w:World} {b o:Nat} {x:Value} (h:w.cell? ⟨b,o,none⟩=some x):Bo w b o [x]:=fun j v hv=>by
 cases j with
 | zero=>simp at hv;subst hv;exact h
 | succ j=>simp at hv
theorem Bx.c7 {w:World} {b:Nat} {x0 x1 x2 x3 x4 x5 x6:Value} {l:List Value} (h:Bx w b (x0 :: x1 :: x2 :: x3 :: x4 :: x5 :: x6 :: l)):w.cell? ⟨b,0,none⟩=some x0∧w.cell? ⟨b,1,none⟩=some x1∧w.cell? ⟨b,2,none⟩=some x2∧w.cell? ⟨b,3,none⟩=some x3∧w.cell? ⟨b,4,none⟩=some x4∧w.cell? ⟨b,5,none⟩=some x5∧w.cell? ⟨b,6,none⟩=some x6:=
 ⟨h 0 _ rfl,h 1 _ rfl,h 2 _ rfl,h 3 _ rfl,h 4 _ rfl,h 5 _ rfl,h 6 _ rfl⟩
end Go.Att
namespace Go.Proofs.YthpaifdfafjlcaaGreat
open Go.RowKit Go.Att Go.Sx

structure TabR (w:World) (bt n0:Nat) (L:List AT) (A:Nat→Nat→Rat) (va vb:Nat→Rat) (bas:Nat→Nat) (row:Nat→Int) (al ab ar aa av ah:Option Addr) (kl kb kr ka kv kh:Nat):Prop where
 bx:Bx w bt [.int .i64 n0,.slice al L.length kl,.slice ab L.length kb,.slice ar (n0+L.length) kr,.slice aa L.length ka,.slice av (n0+L.length) kv,.slice ah L.length kh]
 rl:RdRow 5 OwnA w (.slice al L.length kl) L
 rb:RdRow 1 IntT w (.slice ab L.length kb) (tab L.length fun i=>(bas i:Int))
 rr:RdRow 1 IntT w (.slice ar (n0+L.length) kr) (tab (n0+L.length) row)
 ra:RdRow 1 (RowE 115) w (.slice aa L.length ka) (tab L.length fun i=>tab (n0+L.length) (A i))
 rv:RdRow 6 (OwnDp 115) w (.slice av (n0+L.length) kv) (tab (n0+L.length) fun v=>(va v,vb v))
 rh:RdRow 6 (OwnDp 115) w (.slice ah L.length kh) (tab L.length fun i=>((bnd n0 L).hA (n0+i),(bnd n0 L).hB (n0+i)))
theorem TabR.ext {w w':World} {bt n0:Nat} {L:List AT} {A:Nat→Nat→Rat} {va vb:Nat→Rat} {bas:Nat→Nat} {row:Nat→Int} {al ab ar aa av ah:Option Addr} {kl kb kr ka kv kh:Nat} (h:TabR w bt n0 L A va vb bas row al ab ar aa av ah kl kb kr ka kv kh) (x:Ext w w'):TabR w' bt n0 L A va vb bas row al ab ar aa av ah kl kb kr ka kv kh:=
 ⟨h.bx.ext x,h.rl.ext OwnAt.ext x,h.rb.ext IntT.ext x,h.rr.ext IntT.ext x,h.ra.ext RowE.ext x,h.rv.ext OwnD.ext x,h.rh.ext OwnD.ext x⟩
section
variable {w:World} {bt n0:Nat} {L:List AT} {A:Nat→Nat→Rat} {va vb:Nat→Rat} {bas:Nat→Nat} {row:Nat→Int} {al ab ar aa av ah:Option Addr} {kl kb kr ka kv kh:Nat}
theorem TabR.row_at (h:TabR w bt n0 L A va vb bas row al ab ar aa av ah kl kb kr ka kv kh) {N:Nat} (hN:n0+L.length=N) {v:Nat} (hv:v < N):∃ b off,ar=some ⟨b,off,none⟩∧Att.Bo w b (off+v) [.int .i64 (row v)]:=by
 subst hN
 have hl:v < (tab (n0+L.length) row).length:=by rw [tab_len];exact hv
 obtain ⟨b,off,rfl⟩:=h.rr.some_atI hl
 have:=h.rr.int v hl
 rw [tab_get] at this
 exact ⟨b,off,rfl,Bo.one this⟩
theorem TabR.bas_at (h:TabR w bt n0 L A va vb bas row al ab ar aa av ah kl kb kr ka kv kh) {i:Nat} (hi:i < L.length):∃ b off,ab=some ⟨b,off,none⟩∧Att.Bo w b (off+i) [.int .i64 (bas i)]:=by
 have hl:i < (tab L.length fun i=>(bas i:Int)).length:=by rw [tab_len];exact hi
 obtain ⟨b,off,rfl⟩:=h.rb.some_atI hl
 have:=h.rb.int i hl
 rw [tab_get] at this
 exact ⟨b,off,rfl,Bo.one this⟩
theorem TabR.val_at (h:TabR w bt n0 L A va vb bas row al ab ar aa av ah kl kb kr ka kv kh) {N:Nat} (hN:n0+L.length=N) {v:Nat} (hv:v < N):
  ∃ b off sg x k m y k' m' t x2 k2 m2 y2 k2' m2',av=some ⟨b,off,none⟩∧Att.Bo w b (off+v*6) [.bool sg,.slice x k m,.slice y k' m',.bool t,.slice x2 k2 m2,.slice y2 k2' m2']∧OwnD 115 0 w (.agg #[.bool sg,.slice x k m,.slice y k' m',.bool t,.slice x2 k2 m2,.slice y2 k2' m2']) (va v) (vb v):=by
 subst hN
 have:=h.rv.od v (by rw [tab_len];exact hv)
 rw [tab_gt hv] at this
 exact this
theorem TabR.hi_at (h:TabR w bt n0 L A va vb bas row al ab ar aa av ah kl kb kr ka kv kh) {i:Nat} (hi:i < L.length):
  ∃ b off sg x k m y k' m' t x2 k2 m2 y2 k2' m2',ah=some ⟨b,off,none⟩∧Att.Bo w b (off+i*6) [.bool sg,.slice x k m,.slice y k' m',.bool t,.slice x2 k2 m2,.slice y2 k2' m2']∧OwnD 115 0 w (.agg #[.bool sg,.slice x k m,.slice y k' m',.bool t,.slice x2 k2 m2,.slice y2 k2' m2']) ((bnd n0 L).hA (n0+i)) ((bnd n0 L).hB (n0+i)):=by
 have:=h.rh.od i (by rw [tab_len];exact hi)
 rw [tab_gt hi] at this
 exact this
theorem TabR.a_at (h:TabR w bt n0 L A va vb bas row al ab ar aa av ah kl kb kr ka kv kh) {N:Nat} (hN:n0+L.length=N) {i:Nat} (hi:i < L.length):
  ∃ b off x k,aa=some ⟨b,off,none⟩∧Att.Bo w b (off+i) [.slice x N k]∧RdRow 3 (OwnQp 115) w (.slice x N k) (tab N (A i)):=by
 subst hN
 obtain ⟨b,off,x,k,h1,h2,h3⟩:=h.ra.orow i (by rw [tab_len];exact hi)
 rw [tab_get,tab_len] at h2 h3
 exact ⟨b,off,x,k,h1,Bo.one h2,h3⟩
theorem TabR.cells (h:TabR w bt n0 L A va vb bas row al ab ar aa av ah kl kb kr ka kv kh) {N:Nat} (hN:n0+L.length=N):Bx w bt [.int .i64 n0,.slice al L.length kl,.slice ab L.length kb,.slice ar N kr,.slice aa L.length ka,.slice av N kv,.slice ah L.length kh]:=hN ▸ h.bx
theorem TabR.op_at (h:TabR w bt n0 L A va vb bas row al ab ar aa av ah kl kb kr ka kv kh) {i:Nat} (hi:i < L.length):
  ∃ b off,al=some ⟨b,off,none⟩∧Att.Bo w b (off+i*5+4) [.int .i64 (gt L i).2]:=by
 obtain ⟨b,off,x,k,sg,y,m,d,y',m',d',h1,h2,-⟩:=h.rl.atm i hi
 refine ⟨b,off,h1,Bo.one ?_⟩
 rw [gt_lt hi]
 exact h2.c5.2.2.2.2
end
structure Ix (n0 m:Nat) (s:Stand) (bas:Nat→Nat) (row:Nat→Int):Prop where
 rw1:∀ v,v < n0+m → -1≤row v∧(s.D.B v=true↔0≤row v)
 rw2:∀ v,v < n0+m→s.D.B v=true→(row v).toNat < m∧bas (row v).toNat=v
 bs:∀ i,i < m→bas i < n0+m∧row (bas i)=i
end Go.Proofs.YthpaifdfafjlcaaGreat

namespace Go.Att
open Go.RowKit

theorem Pw.all {α:Type} {k:Nat} {R:List Value→α→Prop}:∀ {E:List (List Value)} {l:List α},Pw k R E l→∀ c∈E,c.length=k
 | _ :: _,_ :: _,h,c,hc=>by
  rcases List.mem_cons.1 hc with rfl | hc
  ·exact h.1.1
  ·exact Pw.all h.2 c hc
 | [],[],_,_,hc=>by cases hc
 | [],_ :: _,h,_,_=>h.elim
 | _ :: _,[],h,_,_=>h.elim
theorem Pw.set {α:Type} {k:Nat} {R S:List Value→α→Prop} (hRS:∀ c a,R c a→S c a):∀ {E:List (List Value)} {l:List α},Pw k R E l→∀ (i:Nat) {c:List Value} {a:α},c.length=k→S c a→Pw k S (E.set i c) (l.set i a)
 | [],[],_,_,_,_,_,_=>trivial
 | _ :: _,_ :: _,h,0,_,_,hc,hS=>⟨⟨hc,hS⟩,h.2.mono hRS⟩
 | _ :: E,_ :: l,h,i+1,_,_,hc,hS=>⟨⟨h.1.1,hRS _ _ h.1.2⟩,Pw.set hRS (E:=E) (l:=l) h.2 i hc hS⟩
 | [],_ :: _,h,_,_,_,_,_=>h.elim
 | _ :: _,[],h,_,_,_,_,_=>h.elim
open Go.RowKit

theorem flatK {k:Nat} {E:List (List Value)} (h:∀ c∈E,c.length=k):E.flatten.length=E.length*k∧∀ i j,i < E.length→j < k→E.flatten[i*k+j]?=(gt E i)[j]?:=by
 have hp:Pw k (fun _ (_:Unit)=>True) E (E.map fun _=>()):=by
  induction E with
  | nil=>trivial
  | cons c E ih=>exact ⟨⟨h c List.mem_cons_self,trivial⟩,ih fun d hd=>h d (List.mem_cons_of_mem _ hd)⟩
 refine ⟨by rw [hp.flat,List.length_map],fun i j hi hj=>?_⟩
 induction E generalizing i with
 | nil=>simp at hi
 | cons c E ih=>
  have hc:=h c List.mem_cons_self
  cases i with
  | zero=>
   rw [Nat.zero_mul,Nat.zero_add,List.flatten_cons,List.getElem?_append_left (by omega)]
   rfl
  | succ i=>
   have:=ih (fun d hd=>h d (List.mem_cons_of_mem _ hd)) hp.2 i (by simpa using hi)
   rw [Nat.succ_mul,List.flatten_cons,List.getElem?_append_right (by omega),show i*k+k+j - c.length=i*k+j by omega,this]
   rfl
theorem putL_cur {c:Nat} {t:TypeId}:∀ (l:List Value) {w:World} {cs:Array Value} (i:Nat),w.heap[c]?=some (.cells cs t (0,0))→i+l.length≤cs.size→
  ∃ cs':Array Value,(Att.putL w c i l).heap[c]?=some (.cells cs' t (0,0))∧cs'.size=cs.size∧(∀ j,j < i→cs'[j]?=cs[j]?)∧(∀ j,j < l.length→cs'[i+j]?=l[j]?)∧∀ j,i+l.length≤j→cs'[j]?=cs[j]?
 | [],_,cs,_,h,_=>⟨cs,h,rfl,fun _ _=>rfl,fun j hj=>absurd hj (Nat.not_lt_zero _),fun _ _=>rfl⟩
 | v :: l,w,cs,i,h,hl=>by
  have h0:=heap_setCell_same w c i _ t v h
  have hs:i < cs.size:=by simp at hl;omega
  obtain ⟨cs',h1,h2,h3,h4,h5⟩:=putL_cur l (i+1) h0 (by simp at hl ⊢;omega)
  refine ⟨cs',h1,by rw [h2];simp,fun j hj=>?_,fun j hj=>?_,fun j hj=>?_⟩
  ·rw [h3 j (by omega),Array.getElem?_setIfInBounds_ne (by omega)]
  ·cases j with
   | zero=>
    rw [Nat.add_zero,h3 i (by omega),Array.getElem?_setIfInBounds_self_of_lt hs]
    rfl
   | succ j=>
    have:=h4 j (by simpa using hj)
    rw [show i+(j+1)=i+1+j by omega,this]
    rfl
  ·rw [h5 j (by simp at hj ⊢;omega),Array.getElem?_setIfInBounds_ne (by simp at hj;omega)]
section
variable {α:Type} {k:Nat} {T:World→Value→α→Prop} {t:TypeId} {B:Nat} {w:World}
theorem OwnRow.base {a:Option Addr} {n cap:Nat} {l:List α} (h:OwnRow k T t B w (.slice a n cap) l) (hl:0 < l.length) (hk:0 < k):∃ g,a=some ⟨g,0,none⟩∧B≤g∧l.length≤cap∧Rt w g (cap*k) t:=by
 obtain ⟨E,⟨h1,h2⟩,hp⟩:=h
 rcases h2 with ⟨-,h2⟩ | ⟨g,cap',cur,hv,hb,hg,hnc,hcm,hcs,ht⟩
 ·rw [h2] at h1
  have:0 < l.length*k:=Nat.mul_pos hl hk
  simp at h1
  omega
 ·simp only [Value.slice.injEq] at hv
  obtain ⟨rfl,rfl,rfl⟩:=hv
  exact ⟨g,rfl,hb,hnc,cur,hcs,hg⟩
theorem Rt.may {g m:Nat} (h:Rt w g m t) (j:Nat) (hj:j < m):(∃ u,w.cell? ⟨g,j,none⟩=some u)∧w.frozen? ⟨g,j,none⟩=false:=by
 obtain ⟨cs,hs,hg⟩:=h
 refine ⟨⟨cs[j],?_⟩,frozen_of_row w g _ _ t hg⟩
 rw [cell_of_row w g _ _ t (0,0) hg]
 exact Array.getElem?_eq_getElem _
theorem Rt.may3 {g m:Nat} (h:Rt w g m t) (o:Nat) (hj:o+3≤m):∃ u0 u1 u2,w.cell? ⟨g,o,none⟩=some u0∧w.cell? ⟨g,o+1,none⟩=some u1∧w.cell? ⟨g,o+2,none⟩=some u2∧w.frozen? ⟨g,o,none⟩=false∧w.frozen? ⟨g,o+1,none⟩=false∧w.frozen? ⟨g,o+2,none⟩=false:=by
 obtain ⟨⟨u0,h0⟩,g0⟩:=h.may o (by omega)
 obtain ⟨⟨u1,h1⟩,g1⟩:=h.may (o+1) (by omega)
 obtain ⟨⟨u2,h2⟩,g2⟩:=h.may (o+2) (by omega)
 exact ⟨u0,u1,u2,h0,h1,h2,g0,g1,g2⟩
theorem OwnRow.setL {g n cap:Nat} {l:List α} (h:OwnRow k T t B w (.slice (some ⟨g,0,none⟩) n cap) l) (i:Nat) (hi:i < l.length) {cs:List Value} (hcs:cs.length=k) {q:α} (hst:∀ v b,T w v b→T (Att.putL w g (i*k) cs) v b)
  (hq:T (Att.putL w g (i*k) cs) (.agg cs.toArray) q):OwnRow k T t B (Att.putL w g (i*k) cs) (.slice (some ⟨g,0,none⟩) n cap) (l.set i q):=by
 obtain ⟨E,⟨h1,h2⟩,hp⟩:=h
 have hl:=hp.len
 have hEl:=hp.all
 obtain ⟨f1,f2⟩:=flatK hEl
 rcases h2 with ⟨h2,-⟩ | ⟨g',cap',cur,hv,hb,hg,hnc,hcm,hcz,ht⟩
 ·exact absurd h2 (by simp)
 ·simp only [Value.slice.injEq,Option.some.injEq,Addr.mk.injEq,and_true] at hv
  obtain ⟨rfl,rfl,rfl⟩:=hv
  have hik:i*k+k≤l.length*k:=by rw [← Nat.succ_mul];exact Nat.mul_le_mul_right k hi
  have hck:l.length*k≤cap*k:=Nat.mul_le_mul_right k hnc
  obtain ⟨cs',e1,e2,e3,e4,e5⟩:=putL_cur cs (i*k) hg (by omega)
  have hp':=Pw.set (S:=fun c a=>T (Att.putL w g (i*k) cs) (.agg c.toArray) a) (fun c a h=>hst _ _ h) hp i (c:=cs) (a:=q) hcs hq
  obtain ⟨f1',f2'⟩:=flatK hp'.all
  rw [List.length_set] at f1' f2'
  have hc:∀ m,m < l.length*k→cur[m]?=E.flatten[m]?:=fun m hm=>by
   rw [← ht,List.getElem?_take,if_pos (by omega)]
   simp
  refine ⟨E.set i cs,⟨by rw [f1',List.length_set,hl],.inr ⟨g,cap,cs',by rw [List.length_set],hb,e1,by rw [List.length_set];exact hnc,hcm,by rw [e2];exact hcz,?_⟩⟩,hp'⟩
  rw [List.length_set]
  apply List.ext_getElem?
  intro m
  by_cases hm:m < l.length*k
  ·rw [List.getElem?_take,if_pos hm]
   have hk:0 < k:=by
    rcases Nat.eq_zero_or_pos k with h | h
    ·rw [h] at hm;simp at hm
    ·exact h
   have hmd:m=m / k*k+m % k:=by rw [Nat.mul_comm];exact (Nat.div_add_mod m k).symm
   have hml:m % k < k:=Nat.mod_lt _ hk
   have hmq:m / k < E.length:=by
    rw [hl]
    exact Nat.div_lt_of_lt_mul (by rw [Nat.mul_comm];exact hm)
   have h6:(E.set i cs).flatten[m]?=(gt (E.set i cs) (m / k))[m % k]?:=by
    have h7:=f2' (m / k) (m % k) hmq hml
    rwa [← hmd] at h7
   rw [h6,gt_set (by omega)]
   show cs'.toList[m]?=_
   rw [Array.getElem?_toList]
   by_cases hmi:m / k=i
   ·rw [if_pos hmi]
    have h8:=e4 (m % k) (by omega)
    rw [← hmi,← hmd] at h8
    exact h8
   ·rw [if_neg hmi]
    have h9:cs'[m]?=cur[m]?:=by
     rcases Nat.lt_or_ge m (i*k) with h | h
     ·exact e3 m h
     ·refine e5 m ?_
      rw [hcs]
      refine Classical.byContradiction fun h10=>hmi ?_
      have h11:m < (i+1)*k:=by rw [Nat.succ_mul];omega
      have h12:m / k < i+1:=Nat.div_lt_of_lt_mul (by rw [Nat.mul_comm];exact h11)
      have h13:i≤m / k:=(Nat.le_div_iff_mul_le hk).2 h
      omega
    rw [h9,hc m hm]
    have h7:=f2 (m / k) (m % k) hmq hml
    rwa [← hmd] at h7
  ·rw [List.getElem?_eq_none (by rw [List.length_take];omega),List.getElem?_eq_none (by rw [f1',hl];omega)]
end
open Go.RowKit

theorem made_get (z:Array Value) (n i:Nat) (hi:i < n):(madeCells z n)[i]?=z[i % z.size]?∨z.size=0:=by
 by_cases h:z.size=0
 ·exact .inr h
 ·left
  have:i % z.size < z.size:=Nat.mod_lt _ (by omega)
  simp [madeCells,hi,this]
theorem made_row {α:Type} {k:Nat} {T:World→Value→α→Prop} {e:TypeId} {B:Nat} {w:World} {v:Value} {n:Nat} {z:Array Value} {q:α} (hz:z.size=k) (hk:0 < k) (hT:T w (.agg z) q) (h:w.ownsRow B e k v n (madeCells z (n*k)).toList):OwnRow k T e B w v (List.replicate n q):=by
 have hl:∀ c∈List.replicate n z.toList,c.length=k:=fun c hc=>by rw [List.eq_of_mem_replicate hc,Array.length_toList,hz]
 obtain ⟨f1,f2⟩:=flatK hl
 rw [List.length_replicate] at f1 f2
 have e1:(List.replicate n z.toList).flatten=(madeCells z (n*k)).toList:=by
  apply List.ext_getElem?
  intro m
  by_cases hm:m < n*k
  ·have hmd:m=m / k*k+m % k:=by rw [Nat.mul_comm];exact (Nat.div_add_mod m k).symm
   have hml:m % k < k:=Nat.mod_lt _ hk
   have hmq:m / k < n:=Nat.div_lt_of_lt_mul (by rw [Nat.mul_comm];exact hm)
   have h7:=f2 (m / k) (m % k) hmq hml
   rw [← hmd] at h7
   rw [h7]
   rcases made_get z (n*k) m hm with h8 | h8
   ·have h9:(madeCells z (n*k)).toList[m]?=(madeCells z (n*k))[m]?:=Array.getElem?_toList
    have h10:z.toList[m % k]?=z[m % k]?:=Array.getElem?_toList
    rw [h9,h8,hz,gt_lt (by rw [List.length_replicate];exact hmq),List.getElem_replicate,h10]
   ·omega
  ·rw [List.getElem?_eq_none (by omega),List.getElem?_eq_none (by rw [Array.length_toList,size_madeCells];omega)]
 refine ⟨List.replicate n z.toList,by rw [List.length_replicate,e1];exact h,?_⟩
 clear e1 f1 f2 hl h
 induction n with
 | zero=>trivial
 | succ n ih=>rw [List.replicate_succ,List.replicate_succ];exact ⟨⟨by rw [Array.length_toList,hz],by simpa using hT⟩,ih⟩
theorem Pw.swap {α β:Type} {k:Nat} {R:List Value→α→Prop} {S:List Value→β→Prop}:∀ {E:List (List Value)} {l:List α} {m:List β},Pw k R E l→l.length=m.length→(∀ i (h:i < l.length) (h':i < m.length) c,R c l[i]→S c m[i])→Pw k S E m
 | [],[],[],_,_,_=>trivial
 | _ :: E,_ :: l,_ :: m,h,hl,hh=>⟨⟨h.1.1,hh 0 (by simp) (by simp) _ h.1.2⟩,Pw.swap (E:=E) (l:=l) (m:=m) h.2 (by simpa using hl) fun i h1 h2 c hc=>hh (i+1) (by simpa using h1) (by simpa using h2) c hc⟩
 | [],[],_ :: _,_,hl,_=>by simp at hl
 | _ :: _,_ :: _,[],_,hl,_=>by simp at hl
 | [],_ :: _,_,h,_,_=>h.elim
 | _ :: _,[],_,h,_,_=>h.elim
theorem OwnRow.keep {α:Type} {k:Nat} {T:World→Value→α→Prop} {t:TypeId} {B:Nat} {w w':World} {a:Option Addr} {n c:Nat} {l:List α} (h:OwnRow k T t B w (.slice a n c) l) (hb:∀ g,a=some ⟨g,0,none⟩→w'.heap[g]?=w.heap[g]?) (hT:∀ u a,T w u a→T w' u a):OwnRow k T t B w' (.slice a n c) l:=by
 obtain ⟨E,⟨h1,h2⟩,hp⟩:=h
 refine ⟨E,⟨h1,?_⟩,hp.mono fun _ _ h=>hT _ _ h⟩
 rcases h2 with h2 | ⟨g,cap,cur,hv,hB,hh,r⟩
 ·exact .inl h2
 ·simp only [Value.slice.injEq] at hv
  exact .inr ⟨g,cap,cur,by simp only [Value.slice.injEq];exact hv,hB,by rw [hb g hv.1];exact hh,r⟩
theorem Rt.ne {w:World} {b c n m:Nat} {t u:TypeId} (h:Rt w b n t) (k:Rt w c m u) (hne:t≠u):b≠c:=fun e=>by
 obtain ⟨_,_,h⟩:=h
 obtain ⟨_,_,k⟩:=k
 rw [e,k] at h
 simp at h
 exact hne h.2.symm
theorem OwnD.putT {e t:TypeId} {B c m:Nat} {w:World} {v:Value} {a b:Rat} (h:OwnD e B w v a b) (hc:Rt w c m t) (hne:e≠t) (i:Nat) (l:List Value):OwnD e B (Att.putL w c i l) v a b:=by
 obtain ⟨n,d,m,c,rfl,h1,h2,h3,h4⟩:=h
 exact ⟨_,_,_,_,rfl,h1.putT hc hne i l,h2.putT hc hne i l,h3.putT hc hne i l,h4.putT hc hne i l⟩
theorem setCells_putL (b:Nat):∀ (vs:List Value) (o:Nat) (w:World),w.setCells b o vs=Att.putL w b o vs
 | [],_,_=>rfl
 | v :: r,o,w=>by
  show (w.setCell ⟨b,o,none⟩ v).setCells b (o+1) r=Att.putL (w.setCell ⟨b,o,none⟩ v) b (o+1) r
  exact setCells_putL b r (o+1) _
theorem store_put {P:Program} {op:Oper} {a:Act} {w:World} {K:Act→World→Prop} {Q:Exit→Act→World→Prop} (ty:TypeId) (x y:Operand) (ho:op.op=.store ty x y)
  (b o:Nat) (cs:List Value) (hx:a.eval x=.pointer (some ⟨b,o,none⟩)) (hy:a.eval y=.agg cs.toArray) {m:Nat} {t:TypeId} (hr:Rt w b m t) (hm:o+cs.length≤m)
  (hi:(P.info? ty).map (·.size)=some cs.length) (h1:cs.all (·.oneCell')=true) (h:K (a.put op.dst undef) (Att.putL w b o cs)):op.wp P a w K Q:=by
 refine wp_store_mid ty x y ho b o cs.toArray hx hy (fun j hj=>?_) (by simpa using hi) (by simpa using h1) ?_
 ·obtain ⟨⟨u,hu⟩,hf⟩:=hr.may (o+j) (by simp at hj;omega)
  exact ⟨by rw [hu];rfl,hf⟩
 ·show K _ (w.setCells b o cs)
  rw [setCells_putL]
  exact h
def HdT (N:Nat) (_:World) (v:Value) (p:Nat × Nat):Prop:=v=.agg #[.slice (some ⟨p.1,0,none⟩) N p.2]
theorem HdT.ext {N:Nat} {w w':World} {v:Value} {p:Nat × Nat} (h:HdT N w v p) (_:Ext w w'):HdT N w' v p:=h
end Go.Att
namespace Go.Proofs.YthpaifdfafjlcaaGreat
open Go.RowKit Go.Att Go.Sx

structure TabO (w0 w:World) (bt n0:Nat) (L:List AT) (A:Nat→Nat→Rat) (va vb:Nat→Rat) (bas:Nat→Nat) (row:Nat→Int) (gs ks:Nat→Nat) (al ab ar aa av ah:Option Addr) (kl kb kr ka kv kh:Nat):Prop where
 x0:Ext w0 w
 rl:RdRow 5 OwnA w0 (.slice al L.length kl) L
 bx:Bx w bt [.int .i64 n0,.slice al L.length kl,.slice ab L.length kb,.slice ar (n0+L.length) kr,.slice aa L.length ka,.slice av (n0+L.length) kv,.slice ah L.length kh]
 rt:Rt w bt 7 120
 ob:OwnRow 1 IntT 3 w0.heap.size w (.slice ab L.length kb) (tab L.length fun i=>(bas i:Int))
 or:OwnRow 1 IntT 3 w0.heap.size w (.slice ar (n0+L.length) kr) (tab (n0+L.length) row)
 oa:OwnRow 1 (HdT (n0+L.length)) 33 w0.heap.size w (.slice aa L.length ka) (tab L.length fun i=>(gs i,ks i))
 os:∀ i,i < L.length→OwnRow 3 (OwnQp 115) 49 w0.heap.size w (.slice (some ⟨gs i,0,none⟩) (n0+L.length) (ks i)) (tab (n0+L.length) (A i))
 ov:OwnRow 6 (OwnDp 115) 122 w0.heap.size w (.slice av (n0+L.length) kv) (tab (n0+L.length) fun v=>(va v,vb v))
 oh:OwnRow 6 (OwnDp 115) 122 w0.heap.size w (.slice ah L.length kh) (tab L.length fun i=>((bnd n0 L).hA (n0+i),(bnd n0 L).hB (n0+i)))
 ds:∀ i j,i < L.length→j < L.length→gs i=gs j→i=j
 db:ab=ar→ab=none
 dv:av=ah→av=none
section
variable {w0 w:World} {bt n0:Nat} {L:List AT} {A:Nat→Nat→Rat} {va vb:Nat→Rat} {bas:Nat→Nat} {row:Nat→Int} {gs ks:Nat→Nat} {al ab ar aa av ah:Option Addr} {kl kb kr ka kv kh:Nat}
theorem TabO.ext {w':World} (h:TabO w0 w bt n0 L A va vb bas row gs ks al ab ar aa av ah kl kb kr ka kv kh) (x:Ext w w'):TabO w0 w' bt n0 L A va vb bas row gs ks al ab ar aa av ah kl kb kr ka kv kh:=
 ⟨Ext.trans h.x0 x,h.rl,h.bx.ext x,h.rt.ext x,h.ob.ext IntT.ext x,h.or.ext IntT.ext x,h.oa.ext HdT.ext x,fun i hi=>(h.os i hi).ext OwnQ.ext x,h.ov.ext OwnD.ext x,h.oh.ext OwnD.ext x,h.ds,h.db,h.dv⟩
theorem TabO.rd (h:TabO w0 w bt n0 L A va vb bas row gs ks al ab ar aa av ah kl kb kr ka kv kh):TabR w bt n0 L A va vb bas row al ab ar aa av ah kl kb kr ka kv kh:=by
 refine ⟨h.bx,h.rl.ext OwnAt.ext h.x0,h.ob.rd,h.or.rd,?_,h.ov.rd,h.oh.rd⟩
 obtain ⟨E,hE,hp⟩:=h.oa.rd
 rw [tab_len] at hE
 refine ⟨E,by rw [tab_len];exact hE,hp.swap (by rw [tab_len,tab_len]) fun i h1 h2 c hc=>?_⟩
 rw [tab_get] at hc ⊢
 rw [tab_len] at h1
 exact ⟨some ⟨gs i,0,none⟩,ks i,by rw [tab_len];exact hc,by rw [tab_len];exact (h.os i h1).rd⟩
theorem TabO.congr (h:TabO w0 w bt n0 L A va vb bas row gs ks al ab ar aa av ah kl kb kr ka kv kh) {A':Nat→Nat→Rat} {va' vb':Nat→Rat} {bas':Nat→Nat} {row':Nat→Int} (h1:∀ i j,i < L.length→j < n0+L.length→A i j=A' i j) (h2:∀ u,u < n0+L.length→va u=va' u∧vb u=vb' u) (h3:∀ i,i < L.length→bas i=bas' i) (h4:∀ u,u < n0+L.length→row u=row' u):
  TabO w0 w bt n0 L A' va' vb' bas' row' gs ks al ab ar aa av ah kl kb kr ka kv kh:=
 ⟨h.x0,h.rl,h.bx,h.rt,tab_congr (f:=fun i=>(bas i:Int)) (g:=fun i=>(bas' i:Int)) (fun i hi=>by rw [h3 i hi]) ▸ h.ob,tab_congr h4 ▸ h.or,h.oa,fun i hi=>tab_congr (h1 i · hi) ▸ h.os i hi,tab_congr (f:=fun v=>(va v,vb v)) (g:=fun v=>(va' v,vb' v)) (fun u hu=>by rw [(h2 u hu).1,(h2 u hu).2]) ▸ h.ov,h.oh,h.ds,h.db,h.dv⟩
theorem TabO.val_base (h:TabO w0 w bt n0 L A va vb bas row gs ks al ab ar aa av ah kl kb kr ka kv kh) (hN:0 < n0+L.length):∃ g,av=some ⟨g,0,none⟩∧w0.heap.size≤g∧Rt w g (kv*6) 122∧n0+L.length≤kv:=by
 obtain ⟨g,h1,h2,h3,h4⟩:=h.ov.base (by rw [tab_len];exact hN) (by decide)
 rw [tab_len] at h3
 exact ⟨g,h1,h2,h4,h3⟩
theorem TabO.row_base (h:TabO w0 w bt n0 L A va vb bas row gs ks al ab ar aa av ah kl kb kr ka kv kh) {i:Nat} (hi:i < L.length):w0.heap.size≤gs i∧Rt w (gs i) (ks i*3) 49∧n0+L.length≤ks i:=by
 obtain ⟨g,h1,h2,h3,h4⟩:=(h.os i hi).base (by rw [tab_len];omega) (by decide)
 rw [tab_len] at h3
 simp only [Option.some.injEq,Addr.mk.injEq,and_true] at h1
 rw [h1]
 exact ⟨h2,h4,h3⟩
theorem TabO.ro_base (h:TabO w0 w bt n0 L A va vb bas row gs ks al ab ar aa av ah kl kb kr ka kv kh) (hN:0 < n0+L.length):∃ g,ar=some ⟨g,0,none⟩∧w0.heap.size≤g∧Rt w g (kr*1) 3∧n0+L.length≤kr:=by
 obtain ⟨g,h1,h2,h3,h4⟩:=h.or.base (by rw [tab_len];exact hN) (by decide)
 rw [tab_len] at h3
 exact ⟨g,h1,h2,h4,h3⟩
theorem TabO.ba_base (h:TabO w0 w bt n0 L A va vb bas row gs ks al ab ar aa av ah kl kb kr ka kv kh) (hN:0 < L.length):∃ g,ab=some ⟨g,0,none⟩∧w0.heap.size≤g∧Rt w g (kb*1) 3∧L.length≤kb:=by
 obtain ⟨g,h1,h2,h3,h4⟩:=h.ob.base (by rw [tab_len];exact hN) (by decide)
 rw [tab_len] at h3
 exact ⟨g,h1,h2,h4,h3⟩
theorem TabO.hd_base (h:TabO w0 w bt n0 L A va vb bas row gs ks al ab ar aa av ah kl kb kr ka kv kh) (hN:0 < L.length):∃ g,aa=some ⟨g,0,none⟩∧w0.heap.size≤g∧Rt w g (ka*1) 33∧L.length≤ka:=by
 obtain ⟨g,h1,h2,h3,h4⟩:=h.oa.base (by rw [tab_len];exact hN) (by decide)
 rw [tab_len] at h3
 exact ⟨g,h1,h2,h4,h3⟩
theorem TabO.hd_at (h:TabO w0 w bt n0 L A va vb bas row gs ks al ab ar aa av ah kl kb kr ka kv kh) {N:Nat} (hN:n0+L.length=N) {i:Nat} (hi:i < L.length):∃ b,aa=some ⟨b,0,none⟩∧Att.Bo w b i [.slice (some ⟨gs i,0,none⟩) N (ks i)]:=by
 subst hN
 obtain ⟨g,h1,-,-,-⟩:=h.hd_base (by omega)
 obtain ⟨b,off,cs,he,hl,hT,hc⟩:=h.oa.rd.at (by decide) i (by rw [tab_len];exact hi)
 rw [h1] at he
 simp only [Option.some.injEq,Addr.mk.injEq,and_true] at he
 obtain ⟨rfl,rfl⟩:=he
 rw [tab_get] at hT
 have:cs=[.slice (some ⟨gs i,0,none⟩) (n0+L.length) (ks i)]:=by
  have h2:Value.agg cs.toArray=.agg #[.slice (some ⟨gs i,0,none⟩) (n0+L.length) (ks i)]:=hT
  simpa using h2
 subst this
 refine ⟨_,h1,Bo.one ?_⟩
 have:=hc 0 (by decide)
 simpa using this
theorem TabO.cell_at (h:TabO w0 w bt n0 L A va vb bas row gs ks al ab ar aa av ah kl kb kr ka kv kh) {N:Nat} (hN:n0+L.length=N) {i j:Nat} (hi:i < L.length) (hj:j < N):
  ∃ s x k m y k' m',Att.Bo w (gs i) (j*3) [.bool s,.slice x k m,.slice y k' m']∧OwnQ 115 0 w (.agg #[.bool s,.slice x k m,.slice y k' m']) (A i j):=by
 subst hN
 obtain ⟨b,off,s,x,k,m,y,k',m',he,h1,h2⟩:=(h.os i hi).rd.oq j (by rw [tab_len];exact hj)
 simp only [Option.some.injEq,Addr.mk.injEq,and_true] at he
 obtain ⟨rfl,rfl⟩:=he
 rw [Nat.zero_add] at h1
 rw [tab_gt hj] at h2
 exact ⟨s,x,k,m,y,k',m',h1,h2⟩
theorem own_congr {α:Type} {k:Nat} {T:World→Value→α→Prop} {t:TypeId} {B:Nat} {w:World} {v:Value} {l m:List α} (h:OwnRow k T t B w v l) (e:l=m):OwnRow k T t B w v m:=e ▸ h
theorem TabO.setVal (h:TabO w0 w bt n0 L A va vb bas row gs ks al ab ar aa av ah kl kb kr ka kv kh) {g:Nat} (hg:av=some ⟨g,0,none⟩) {v:Nat} (hv:v < n0+L.length) {cs:List Value} (hcs:cs.length=6) {p q:Rat} (hq:OwnD 115 0 w (.agg cs.toArray) p q):
  TabO w0 (Att.putL w g (v*6) cs) bt n0 L A (fun u=>if u=v then p else va u) (fun u=>if u=v then q else vb u) bas row gs ks al ab ar aa av ah kl kb kr ka kv kh:=by
 obtain ⟨g',h1,hB,hR,-⟩:=h.val_base (by omega)
 rw [hg] at h1
 simp only [Option.some.injEq,Addr.mk.injEq,and_true] at h1
 subst h1
 have hD:∀ u b,OwnDp 115 w u b→OwnDp 115 (Att.putL w g (v*6) cs) u b:=fun _ _ h=>OwnD.putT h hR (by decide) _ _
 have hQ:∀ u b,OwnQp 115 w u b→OwnQp 115 (Att.putL w g (v*6) cs) u b:=fun _ _ h=>OwnQ.putT h hR (by decide) _ _
 have ov':=h.ov
 rw [hg] at ov'
 have hst:=ov'.setL v (by rw [tab_len];exact hv) hcs (q:=(p,q)) hD (OwnD.putT hq hR (by decide) _ _)
 refine ⟨putL_below hB cs _ h.x0,h.rl,h.bx.putL (h.rt.ne hR (by decide)) _ _,h.rt.putL (h.rt.ne hR (by decide)) _ _,h.ob.putT hR (by decide) _ _ fun _ _ h=>h,h.or.putT hR (by decide) _ _ fun _ _ h=>h,h.oa.putT hR (by decide) _ _ fun _ _ h=>h,fun i hi=>(h.os i hi).putT hR (by decide) _ _ hQ,?_,?_,h.ds,h.db,h.dv⟩
 ·rw [hg]
  refine own_congr hst ?_
  rw [tab_set]
  refine tab_congr fun u _=>?_
  by_cases e:u=v
  ·rw [if_pos e,if_pos e,if_pos e]
  ·rw [if_neg e,if_neg e,if_neg e]
 ·refine h.oh.keep (fun b hb=>putL_block g (fun e=>?_) cs w _) hD
  have:=h.dv (by rw [hg,hb,e])
  rw [hg] at this
  cases this
theorem TabO.setA (h:TabO w0 w bt n0 L A va vb bas row gs ks al ab ar aa av ah kl kb kr ka kv kh) {i j:Nat} (hi:i < L.length) (hj:j < n0+L.length) {cs:List Value} (hcs:cs.length=3) {q:Rat} (hq:OwnQ 115 0 w (.agg cs.toArray) q):
  TabO w0 (Att.putL w (gs i) (j*3) cs) bt n0 L (fun i' j'=>if i'=i∧j'=j then q else A i' j') va vb bas row gs ks al ab ar aa av ah kl kb kr ka kv kh:=by
 obtain ⟨hB,hR,-⟩:=h.row_base hi
 have hD:∀ u b,OwnDp 115 w u b→OwnDp 115 (Att.putL w (gs i) (j*3) cs) u b:=fun _ _ h=>OwnD.putT h hR (by decide) _ _
 have hQ:∀ u b,OwnQp 115 w u b→OwnQp 115 (Att.putL w (gs i) (j*3) cs) u b:=fun _ _ h=>OwnQ.putT h hR (by decide) _ _
 have hst:=(h.os i hi).setL j (by rw [tab_len];exact hj) hcs (q:=q) hQ (OwnQ.putT hq hR (by decide) _ _)
 refine ⟨putL_below hB cs _ h.x0,h.rl,h.bx.putL (h.rt.ne hR (by decide)) _ _,h.rt.putL (h.rt.ne hR (by decide)) _ _,h.ob.putT hR (by decide) _ _ fun _ _ h=>h,h.or.putT hR (by decide) _ _ fun _ _ h=>h,h.oa.putT hR (by decide) _ _ fun _ _ h=>h,fun i' hi'=>?_,h.ov.putT hR (by decide) _ _ hD,h.oh.putT hR (by decide) _ _ hD,h.ds,h.db,h.dv⟩
 by_cases e:i'=i
 ·subst e
  refine own_congr hst ?_
  rw [tab_set]
  refine tab_congr fun u _=>?_
  by_cases e:u=j
  ·rw [if_pos e,if_pos ⟨rfl,e⟩]
  ·rw [if_neg e,if_neg fun h=>e h.2]
 ·refine own_congr ((h.os i' hi').keep (fun b hb=>putL_block (gs i) (fun e2=>e ?_) cs w _) hQ) (tab_congr fun u _=>by rw [if_neg fun h=>e h.1])
  simp only [Option.some.injEq,Addr.mk.injEq,and_true] at hb
  exact h.ds i' i hi' hi (by rw [hb,e2])
theorem TabO.put13 (h:TabO w0 w bt n0 L A va vb bas row gs ks al ab ar aa av ah kl kb kr ka kv kh) {g m:Nat} (hR:Rt w g m 49) (hne:∀ i,i < L.length→g≠gs i) (hB:w0.heap.size≤g) (o:Nat) (cs:List Value):
  TabO w0 (Att.putL w g o cs) bt n0 L A va vb bas row gs ks al ab ar aa av ah kl kb kr ka kv kh:=by
 have hD:∀ u b,OwnDp 115 w u b→OwnDp 115 (Att.putL w g o cs) u b:=fun _ _ h=>OwnD.putT h hR (by decide) _ _
 have hQ:∀ u b,OwnQp 115 w u b→OwnQp 115 (Att.putL w g o cs) u b:=fun _ _ h=>OwnQ.putT h hR (by decide) _ _
 refine ⟨putL_below hB cs _ h.x0,h.rl,h.bx.putL (h.rt.ne hR (by decide)) _ _,h.rt.putL (h.rt.ne hR (by decide)) _ _,h.ob.putT hR (by decide) _ _ fun _ _ h=>h,h.or.putT hR (by decide) _ _ fun _ _ h=>h,h.oa.putT hR (by decide) _ _ fun _ _ h=>h,fun i hi=>?_,h.ov.putT hR (by decide) _ _ hD,h.oh.putT hR (by decide) _ _ hD,h.ds,h.db,h.dv⟩
 refine (h.os i hi).keep (fun b hb=>putL_block g (fun e2=>hne i hi ?_) cs w _) hQ
 simp only [Option.some.injEq,Addr.mk.injEq,and_true] at hb
 rw [hb,e2]
theorem TabO.setHdr (h:TabO w0 w bt n0 L A va vb bas row gs ks al ab ar aa av ah kl kb kr ka kv kh) {g:Nat} (hg:aa=some ⟨g,0,none⟩) {r g' k':Nat} (hr:r < L.length) {f:Nat→Rat} (hf:OwnRow 3 (OwnQp 115) 49 w0.heap.size w (.slice (some ⟨g',0,none⟩) (n0+L.length) k') (tab (n0+L.length) f)) (hne:∀ i,i < L.length→g'≠gs i):
  TabO w0 (Att.putL w g (r*1) [.slice (some ⟨g',0,none⟩) (n0+L.length) k']) bt n0 L (fun i j=>if i=r then f j else A i j) va vb bas row (fun i=>if i=r then g' else gs i) (fun i=>if i=r then k' else ks i) al ab ar aa av ah kl kb kr ka kv kh:=by
 obtain ⟨g2,h1,hB,hR,-⟩:=h.hd_base (by omega)
 rw [hg] at h1
 simp only [Option.some.injEq,Addr.mk.injEq,and_true] at h1
 subst h1
 have hD:∀ u b,OwnDp 115 w u b→OwnDp 115 (Att.putL w g (r*1) [.slice (some ⟨g',0,none⟩) (n0+L.length) k']) u b:=fun _ _ h=>OwnD.putT h hR (by decide) _ _
 have hQ:∀ u b,OwnQp 115 w u b→OwnQp 115 (Att.putL w g (r*1) [.slice (some ⟨g',0,none⟩) (n0+L.length) k']) u b:=fun _ _ h=>OwnQ.putT h hR (by decide) _ _
 have oa':=h.oa
 rw [hg] at oa'
 have hst:=oa'.setL r (by rw [tab_len];exact hr) (cs:=[.slice (some ⟨g',0,none⟩) (n0+L.length) k']) (q:=(g',k')) rfl (fun _ _ h=>h) rfl
 refine ⟨putL_below hB _ _ h.x0,h.rl,h.bx.putL (h.rt.ne hR (by decide)) _ _,h.rt.putL (h.rt.ne hR (by decide)) _ _,h.ob.putT hR (by decide) _ _ fun _ _ h=>h,h.or.putT hR (by decide) _ _ fun _ _ h=>h,?_,fun i hi=>?_,h.ov.putT hR (by decide) _ _ hD,h.oh.putT hR (by decide) _ _ hD,fun i j hi hj e=>?_,h.db,h.dv⟩
 ·rw [hg]
  refine own_congr hst ?_
  rw [tab_set]
  refine tab_congr fun u _=>?_
  by_cases e:u=r
  ·rw [if_pos e,if_pos e,if_pos e]
  ·rw [if_neg e,if_neg e,if_neg e]
 ·by_cases e:i=r
  ·rw [if_pos e,if_pos e]
   exact own_congr (hf.putT hR (by decide) _ _ hQ) (tab_congr fun u _=>by rw [if_pos e])
  ·rw [if_neg e,if_neg e]
   exact own_congr ((h.os i hi).putT hR (by decide) _ _ hQ) (tab_congr fun u _=>by rw [if_neg e])
 ·by_cases e1:i=r
  ·by_cases e2:j=r
   ·omega
   ·rw [if_pos e1,if_neg e2] at e
    exact absurd e (hne j hj)
  ·by_cases e2:j=r
   ·rw [if_neg e1,if_pos e2] at e
    exact absurd e.symm (hne i hi)
   ·rw [if_neg e1,if_neg e2] at e
    exact h.ds i j hi hj e
theorem TabO.setBas (h:TabO w0 w bt n0 L A va vb bas row gs ks al ab ar aa av ah kl kb kr ka kv kh) {g:Nat} (hg:ab=some ⟨g,0,none⟩) {r k:Nat} (hr:r < L.length):
  TabO w0 (Att.putL w g (r*1) [.int .i64 k]) bt n0 L A va vb (fun i=>if i=r then k else bas i) row gs ks al ab ar aa av ah kl kb kr ka kv kh:=by
 obtain ⟨g2,h1,hB,hR,-⟩:=h.ba_base (by omega)
 rw [hg] at h1
 simp only [Option.some.injEq,Addr.mk.injEq,and_true] at h1
 subst h1
 have hD:∀ u b,OwnDp 115 w u b→OwnDp 115 (Att.putL w g (r*1) [.int .i64 k]) u b:=fun _ _ h=>OwnD.putT h hR (by decide) _ _
 have hQ:∀ u b,OwnQp 115 w u b→OwnQp 115 (Att.putL w g (r*1) [.int .i64 k]) u b:=fun _ _ h=>OwnQ.putT h hR (by decide) _ _
 have ob':=h.ob
 rw [hg] at ob'
 have hst:=ob'.setL r (by rw [tab_len];exact hr) (cs:=[.int .i64 k]) (q:=(k:Int)) rfl (fun _ _ h=>h) rfl
 refine ⟨putL_below hB _ _ h.x0,h.rl,h.bx.putL (h.rt.ne hR (by decide)) _ _,h.rt.putL (h.rt.ne hR (by decide)) _ _,?_,?_,h.oa.putT hR (by decide) _ _ fun _ _ h=>h,fun i hi=>(h.os i hi).putT hR (by decide) _ _ hQ,h.ov.putT hR (by decide) _ _ hD,h.oh.putT hR (by decide) _ _ hD,h.ds,h.db,h.dv⟩
 ·rw [hg]
  refine own_congr hst ?_
  rw [tab_set]
  refine tab_congr fun u _=>?_
  by_cases e:u=r
  ·rw [if_pos e,if_pos e]
  ·rw [if_neg e,if_neg e]
 ·refine h.or.keep (fun b hb=>putL_block g (fun e=>?_) _ w _) fun _ _ h=>h
  have:=h.db (by rw [hg,hb,e])
  rw [hg] at this
  cases this
theorem TabO.setRow (h:TabO w0 w bt n0 L A va vb bas row gs ks al ab ar aa av ah kl kb kr ka kv kh) {g:Nat} (hg:ar=some ⟨g,0,none⟩) {v:Nat} {z:Int} (hv:v < n0+L.length):
  TabO w0 (Att.putL w g (v*1) [.int .i64 z]) bt n0 L A va vb bas (fun u=>if u=v then z else row u) gs ks al ab ar aa av ah kl kb kr ka kv kh:=by
 obtain ⟨g2,h1,hB,hR,-⟩:=h.ro_base (by omega)
 rw [hg] at h1
 simp only [Option.some.injEq,Addr.mk.injEq,and_true] at h1
 subst h1
 have hD:∀ u b,OwnDp 115 w u b→OwnDp 115 (Att.putL w g (v*1) [.int .i64 z]) u b:=fun _ _ h=>OwnD.putT h hR (by decide) _ _
 have hQ:∀ u b,OwnQp 115 w u b→OwnQp 115 (Att.putL w g (v*1) [.int .i64 z]) u b:=fun _ _ h=>OwnQ.putT h hR (by decide) _ _
 have or':=h.or
 rw [hg] at or'
 have hst:=or'.setL v (by rw [tab_len];exact hv) (cs:=[.int .i64 z]) (q:=z) rfl (fun _ _ h=>h) rfl
 refine ⟨putL_below hB _ _ h.x0,h.rl,h.bx.putL (h.rt.ne hR (by decide)) _ _,h.rt.putL (h.rt.ne hR (by decide)) _ _,?_,?_,h.oa.putT hR (by decide) _ _ fun _ _ h=>h,fun i hi=>(h.os i hi).putT hR (by decide) _ _ hQ,h.ov.putT hR (by decide) _ _ hD,h.oh.putT hR (by decide) _ _ hD,h.ds,h.db,h.dv⟩
 ·refine h.ob.keep (fun b hb=>putL_block g (fun e=>?_) _ w _) fun _ _ h=>h
  have:=h.db (by rw [hg,hb,e])
  rw [hb] at this
  cases this
 ·rw [hg]
  refine own_congr hst ?_
  rw [tab_set]
theorem TabO.setHdr' (h:TabO w0 w bt n0 L A va vb bas row gs ks al ab ar aa av ah kl kb kr ka kv kh) {g:Nat} (hg:aa=some ⟨g,0,none⟩) {r g' k':Nat} (hr:r < L.length) {f:Nat→Rat} (hf:OwnRow 3 (OwnQp 115) 49 w0.heap.size w (.slice (some ⟨g',0,none⟩) (n0+L.length) k') (tab (n0+L.length) f)) (hne:∀ i,i < L.length→g'≠gs i):
  TabO w0 (Att.putL w g r [.slice (some ⟨g',0,none⟩) (n0+L.length) k']) bt n0 L (fun i j=>if i=r then f j else A i j) va vb bas row (fun i=>if i=r then g' else gs i) (fun i=>if i=r then k' else ks i) al ab ar aa av ah kl kb kr ka kv kh:=by
 have:=h.setHdr hg hr hf hne
 rwa [Nat.mul_one] at this
theorem TabO.setBas' (h:TabO w0 w bt n0 L A va vb bas row gs ks al ab ar aa av ah kl kb kr ka kv kh) {g:Nat} (hg:ab=some ⟨g,0,none⟩) {r k:Nat} (hr:r < L.length):
  TabO w0 (Att.putL w g r [.int .i64 k]) bt n0 L A va vb (fun i=>if i=r then k else bas i) row gs ks al ab ar aa av ah kl kb kr ka kv kh:=by
 have:=h.setBas (k:=k) hg hr
 rwa [Nat.mul_one] at this
theorem TabO.setRow' (h:TabO w0 w bt n0 L A va vb bas row gs ks al ab ar aa av ah kl kb kr ka kv kh) {g:Nat} (hg:ar=some ⟨g,0,none⟩) {v:Nat} {z:Int} (hv:v < n0+L.length):
  TabO w0 (Att.putL w g v [.int .i64 z]) bt n0 L A va vb bas (fun u=>if u=v then z else row u) gs ks al ab ar aa av ah kl kb kr ka kv kh:=by
 have:=h.setRow (z:=z) hg hv
 rwa [Nat.mul_one] at this
theorem TabO.atW {w':World} (h:TabO w0 w bt n0 L A va vb bas row gs ks al ab ar aa av ah kl kb kr ka kv kh) (e:w=w'):TabO w0 w' bt n0 L A va vb bas row gs ks al ab ar aa av ah kl kb kr ka kv kh:=e ▸ h
end
end Go.Proofs.YthpaifdfafjlcaaGreat

namespace Go.Att
open Go.RowKit

theorem kdH {e':TypeId} {N:Nat}:Kd e' (HdT N):=⟨fun h _=>h,fun h _ _=>h,fun h u hu=>by
 have h2:Value.agg _=.agg #[.slice _ N _]:=h
 simp only [Value.agg.injEq] at h2
 have h3:=congrArg Array.toList h2
 simp at h3
 rw [h3] at hu
 simp at hu
 rw [hu]
 rfl⟩
theorem OwnRow.grow {α β:Type} {k k':Nat} {T:World→Value→α→Prop} {T':World→Value→β→Prop} {e e':TypeId} {B B':Nat} {w w':World} {v u:Value} {l:List α} {m:List β} (h:OwnRow k T e B w v l) (hT:Kd e' T) (o:OwnRow k' T' e' B' w u m) (hne:e≠e') (hg:w.grownBy w' u.ownBlock):OwnRow k T e B w' v l:=by
 obtain ⟨n,xs,hE⟩:=o.own
 exact h.grown (fun _ _ h=>hT.grown h hE hg) hE hne hg
theorem putL_sz (b:Nat):∀ (l:List Value) (w:World) (i:Nat),(Att.putL w b i l).heap.size=w.heap.size
 | [],_,_=>rfl
 | v :: l,w,i=>by
  show (Att.putL (w.setCell ⟨b,i,none⟩ v) b (i+1) l).heap.size=_
  rw [putL_sz b l]
  simp [World.setCell]
theorem Rt.putS {b n:Nat} {t:TypeId}:∀ (l:List Value) {w:World} (i:Nat),Rt w b n t→Rt (Att.putL w b i l) b n t
 | [],_,_,h=>h
 | v :: l,w,i,⟨cs,hs,hg⟩=>Rt.putS l (i+1) ⟨_,by simpa using hs,heap_setCell_same w b i _ t v hg⟩
theorem Bx.setI {w:World} {b n i:Nat} {t:TypeId} {cs:List Value} (h:Bx w b cs) (hr:Rt w b n t) (hi:i < n) (x:Value):Bx (Att.putL w b i [x]) b (cs.set i x):=by
 obtain ⟨ds,hs,hg⟩:=hr
 obtain ⟨cs',h1,h2,h3,h4,h5⟩:=putL_cur [x] i hg (by rw [hs];exact hi)
 intro j v hv
 have hc:(Att.putL w b i [x]).cell? ⟨b,j,none⟩=cs'[j]?:=by rw [cell_of_row _ b _ _ t (0,0) h1]
 rw [hc]
 by_cases e:j=i
 ·have hlt:i < cs.length:=by
   rcases Nat.lt_or_ge i cs.length with h | h
   ·exact h
   ·rw [List.getElem?_eq_none (by rw [List.length_set];omega)] at hv;cases hv
  rw [e,List.getElem?_set_self hlt] at hv
  have:=h4 0 (by simp)
  rw [Nat.add_zero] at this
  rw [e,this]
  exact hv
 ·rw [List.getElem?_set_ne (by omega)] at hv
  have h6:=h j v hv
  rw [cell_of_row w b _ _ t (0,0) hg] at h6
  rcases Nat.lt_or_ge j i with h7 | h7
  ·rw [h3 j h7];exact h6
  ·rw [h5 j (by simp;omega)];exact h6
theorem Apt.grown {v u u':Value} {w:World} (h:Apt v u) (hw:∀ g,u'.ownBlock=some g→u.ownBlock=some g∨w.heap.size≤g) (hv:∀ g,v.ownBlock=some g→g < w.heap.size):Apt v u':=fun g h1 h2=>by
 rcases hw g h2 with h3 | h3
 ·exact h g h1 h3
 ·have:=hv g h1;omega
theorem Apt.of_none {v u:Value} (h:v.ownBlock=none):Apt v u:=fun g h1=>by rw [h] at h1;cases h1
end Go.Att
namespace Go.Proofs.YthpaifdfafjlcaaGreat
open Go.RowKit Go.Att Go.Sx

def row0 (n0 u:Nat):Int:=if u < n0 then -1 else ((u - n0:Nat):Int)
structure TabP (w0 w:World) (bt n0 N:Nat) (HA HB:Nat→Rat) (A:Nat→Nat→Rat) (gs ks:Nat→Nat) (vb vr va vv vh:Value) (ib ir ia ih:Nat):Prop where
 x0:Ext w0 w
 rt:Rt w bt 7 120
 hb:w0.heap.size≤bt
 ob:OwnRow 1 IntT 3 w0.heap.size w vb (tab ib fun i=>((n0+i:Nat):Int))
 or:OwnRow 1 IntT 3 w0.heap.size w vr (tab ir (row0 n0))
 oa:OwnRow 1 (HdT N) 33 w0.heap.size w va (tab ia fun i=>(gs i,ks i))
 os:∀ i,i < ia→OwnRow 3 (OwnQp 115) 49 w0.heap.size w (.slice (some ⟨gs i,0,none⟩) N (ks i)) (tab N (A i))
 ov:OwnRow 6 (OwnDp 115) 122 w0.heap.size w vv (tab N fun _=>(0,0))
 oh:OwnRow 6 (OwnDp 115) 122 w0.heap.size w vh (tab ih fun i=>(HA i,HB i))
 ds:∀ i j,i < ia→j < ia→gs i=gs j→i=j
 db:Apt vb vr
 dv:Apt vv vh
 bs:∀ i,i < ia→gs i < w.heap.size
section
variable {w0 w w':World} {bt n0 N:Nat} {HA HB:Nat→Rat} {A:Nat→Nat→Rat} {gs ks:Nat→Nat} {vb vr va vv vh:Value} {ib ir ia ih:Nat}
theorem TabP.ext (h:TabP w0 w bt n0 N HA HB A gs ks vb vr va vv vh ib ir ia ih) (x:Ext w w'):TabP w0 w' bt n0 N HA HB A gs ks vb vr va vv vh ib ir ia ih:=
 ⟨Ext.trans h.x0 x,h.rt.ext x,h.hb,h.ob.ext IntT.ext x,h.or.ext IntT.ext x,h.oa.ext HdT.ext x,fun i hi=>(h.os i hi).ext OwnQ.ext x,h.ov.ext OwnD.ext x,h.oh.ext OwnD.ext x,h.ds,h.db,h.dv,fun i hi=>Nat.lt_of_lt_of_le (h.bs i hi) (Below.size x)⟩
theorem TabP.put (h:TabP w0 w bt n0 N HA HB A gs ks vb vr va vv vh ib ir ia ih) (i:Nat) (l:List Value):TabP w0 (Att.putL w bt i l) bt n0 N HA HB A gs ks vb vr va vv vh ib ir ia ih:=by
 have hD:∀ u b,OwnDp 115 w u b→OwnDp 115 (Att.putL w bt i l) u b:=fun _ _ g=>OwnD.putT g h.rt (by decide) _ _
 have hQ:∀ u b,OwnQp 115 w u b→OwnQp 115 (Att.putL w bt i l) u b:=fun _ _ g=>OwnQ.putT g h.rt (by decide) _ _
 refine ⟨putL_below h.hb _ _ h.x0,?_,h.hb,h.ob.putT h.rt (by decide) _ _ fun _ _ h=>h,h.or.putT h.rt (by decide) _ _ fun _ _ h=>h,h.oa.putT h.rt (by decide) _ _ fun _ _ h=>h,fun j hj=>(h.os j hj).putT h.rt (by decide) _ _ hQ,h.ov.putT h.rt (by decide) _ _ hD,h.oh.putT h.rt (by decide) _ _ hD,h.ds,h.db,h.dv,fun j hj=>by rw [putL_sz];exact h.bs j hj⟩
 exact Rt.putS l i h.rt
theorem TabP.pushR (h:TabP w0 w bt n0 N HA HB A gs ks vb vr va vv vh ib ir ia ih) {vr':Value} (o:OwnRow 1 IntT 3 w0.heap.size w' vr' (tab ir (row0 n0) ++ [row0 n0 ir])) (g:w.grownBy w' vr.ownBlock) (hw:∀ g,vr'.ownBlock=some g→vr.ownBlock=some g∨w.heap.size≤g):
  TabP w0 w' bt n0 N HA HB A gs ks vb vr' va vv vh ib (ir+1) ia ih:=by
 have b:Below w0.heap.size w w':=(Below.refl _ _).grown g (Below.size h.x0) fun k hk=>(h.or.lt k hk).1
 exact ⟨Below.trans h.x0 b,h.rt.grow g (h.or.ne_rt h.rt (by decide)),h.hb,h.ob.apart h.db g fun _ _ h=>h,by rw [tab_succ];exact o,h.oa.grow kdH h.or (by decide) g,fun i hi=>(h.os i hi).grow (kdQ (by decide)) h.or (by decide) g,h.ov.grow (kdD (by decide)) h.or (by decide) g,h.oh.grow (kdD (by decide)) h.or (by decide) g,h.ds,h.db.grown hw fun k hk=>(h.ob.lt k hk).2,h.dv,fun i hi=>Nat.lt_of_lt_of_le (h.bs i hi) (Below.size b)⟩
theorem TabP.pushB (h:TabP w0 w bt n0 N HA HB A gs ks vb vr va vv vh ib ir ia ih) {vb':Value} (o:OwnRow 1 IntT 3 w0.heap.size w' vb' (tab ib (fun i=>((n0+i:Nat):Int)) ++ [((n0+ib:Nat):Int)])) (g:w.grownBy w' vb.ownBlock) (hw:∀ g,vb'.ownBlock=some g→vb.ownBlock=some g∨w.heap.size≤g):
  TabP w0 w' bt n0 N HA HB A gs ks vb' vr va vv vh (ib+1) ir ia ih:=by
 have b:Below w0.heap.size w w':=(Below.refl _ _).grown g (Below.size h.x0) fun k hk=>(h.ob.lt k hk).1
 exact ⟨Below.trans h.x0 b,h.rt.grow g (h.ob.ne_rt h.rt (by decide)),h.hb,by rw [tab_succ];exact o,h.or.apart h.db.symm g fun _ _ h=>h,h.oa.grow kdH h.ob (by decide) g,fun i hi=>(h.os i hi).grow (kdQ (by decide)) h.ob (by decide) g,h.ov.grow (kdD (by decide)) h.ob (by decide) g,h.oh.grow (kdD (by decide)) h.ob (by decide) g,h.ds,(h.db.symm.grown hw fun k hk=>(h.or.lt k hk).2).symm,h.dv,fun i hi=>Nat.lt_of_lt_of_le (h.bs i hi) (Below.size b)⟩
theorem TabP.pushA (h:TabP w0 w bt n0 N HA HB A gs ks vb vr va vv vh ib ir ia ih) {va':Value} {g9 k9:Nat} (o:OwnRow 1 (HdT N) 33 w0.heap.size w' va' (tab ia (fun i=>(gs i,ks i)) ++ [(g9,k9)])) (g:w.grownBy w' va.ownBlock)
  (hr:OwnRow 3 (OwnQp 115) 49 w0.heap.size w (.slice (some ⟨g9,0,none⟩) N k9) (tab N (A ia))) (hN:0 < N) (hne:∀ i,i < ia→g9≠gs i):
  TabP w0 w' bt n0 N HA HB A (fun i=>if i=ia then g9 else gs i) (fun i=>if i=ia then k9 else ks i) vb vr va' vv vh ib ir (ia+1) ih:=by
 have hlt:g9 < w.heap.size:=by
  obtain ⟨g,h1,-,-,h2⟩:=hr.base (by rw [tab_len];exact hN) (by decide)
  simp only [Option.some.injEq,Addr.mk.injEq,and_true] at h1
  exact h1 ▸ h2.lt
 have b:Below w0.heap.size w w':=(Below.refl _ _).grown g (Below.size h.x0) fun k hk=>(h.oa.lt k hk).1
 refine ⟨Below.trans h.x0 b,h.rt.grow g (h.oa.ne_rt h.rt (by decide)),h.hb,h.ob.grow (kdI _) h.oa (by decide) g,h.or.grow (kdI _) h.oa (by decide) g,?_,fun i hi=>?_,h.ov.grow (kdD (by decide)) h.oa (by decide) g,h.oh.grow (kdD (by decide)) h.oa (by decide) g,fun i j hi hj e=>?_,h.db,h.dv,fun i hi=>?_⟩
 ·rw [tab_succ,if_pos rfl,if_pos rfl]
  exact own_congr o (by rw [tab_congr (f:=fun i=>(gs i,ks i)) (g:=fun i=>(if i=ia then g9 else gs i,if i=ia then k9 else ks i)) fun i hi=>by rw [if_neg (by omega),if_neg (by omega)]])
 ·by_cases e:i=ia
  ·rw [if_pos e,if_pos e,e]
   exact hr.grow (kdQ (by decide)) h.oa (by decide) g
  ·rw [if_neg e,if_neg e]
   exact (h.os i (by omega)).grow (kdQ (by decide)) h.oa (by decide) g
 ·by_cases e1:i=ia
  ·by_cases e2:j=ia
   ·omega
   ·rw [if_pos e1,if_neg e2] at e
    exact absurd e (hne j (by omega))
  ·by_cases e2:j=ia
   ·rw [if_neg e1,if_pos e2] at e
    exact absurd e.symm (hne i (by omega))
   ·rw [if_neg e1,if_neg e2] at e
    exact h.ds i j (by omega) (by omega) e
 ·by_cases e:i=ia
  ·rw [if_pos e];exact Nat.lt_of_lt_of_le hlt (Below.size b)
  ·rw [if_neg e];exact Nat.lt_of_lt_of_le (h.bs i (by omega)) (Below.size b)
theorem TabP.pushH (h:TabP w0 w bt n0 N HA HB A gs ks vb vr va vv vh ib ir ia ih) {vh':Value} (o:OwnRow 6 (OwnDp 115) 122 w0.heap.size w' vh' (tab ih (fun i=>(HA i,HB i)) ++ [(HA ih,HB ih)])) (g:w.grownBy w' vh.ownBlock) (hw:∀ g,vh'.ownBlock=some g→vh.ownBlock=some g∨w.heap.size≤g):
  TabP w0 w' bt n0 N HA HB A gs ks vb vr va vv vh' ib ir ia (ih+1):=by
 have b:Below w0.heap.size w w':=(Below.refl _ _).grown g (Below.size h.x0) fun k hk=>(h.oh.lt k hk).1
 obtain ⟨n,xs,hE⟩:=h.oh.own
 exact ⟨Below.trans h.x0 b,h.rt.grow g (h.oh.ne_rt h.rt (by decide)),h.hb,h.ob.grow (kdI _) h.oh (by decide) g,h.or.grow (kdI _) h.oh (by decide) g,h.oa.grow kdH h.oh (by decide) g,fun i hi=>(h.os i hi).grow (kdQ (by decide)) h.oh (by decide) g,h.ov.apart h.dv g fun _ _ h=>(kdD (e:=115) (by decide)).grown h hE g,by rw [tab_succ];exact o,h.ds,h.db,h.dv.grown hw fun k hk=>(h.ov.lt k hk).2,fun i hi=>Nat.lt_of_lt_of_le (h.bs i hi) (Below.size b)⟩
end
theorem own_shape {α:Type} {k:Nat} {T:World→Value→α→Prop} {e:TypeId} {B n:Nat} {w:World} {v:Value} {f:Nat→α} (h:OwnRow k T e B w v (tab n f)):∃ a c,v=.slice a n c:=by
 obtain ⟨a,c,he,-,-⟩:=h.rd.shape
 rw [tab_len] at he
 exact ⟨a,c,he⟩
theorem TabP.done {w0 w:World} {bt n0:Nat} {L:List AT} {gs ks:Nat→Nat} {al ab ar aa av ah:Option Addr} {kl kb kr ka kv kh:Nat} (h:TabP w0 w bt n0 (n0+L.length) (fun i=>(bnd n0 L).hA (n0+i)) (fun i=>(bnd n0 L).hB (n0+i)) (fun i=>(std0 n0 L).D.A (n0+i)) gs ks (.slice ab L.length kb) (.slice ar (n0+L.length) kr) (.slice aa L.length ka) (.slice av (n0+L.length) kv) (.slice ah L.length kh) L.length (n0+L.length) L.length L.length)
  (hl:RdRow 5 OwnA w0 (.slice al L.length kl) L) (hx:Bx w bt [.int .i64 n0,.slice al L.length kl,.slice ab L.length kb,.slice ar (n0+L.length) kr,.slice aa L.length ka,.slice av (n0+L.length) kv,.slice ah L.length kh])
  :
  TabO w0 w bt n0 L (fun i=>(std0 n0 L).D.A (n0+i)) (std0 n0 L).a (std0 n0 L).b (fun i=>n0+i) (row0 n0) gs ks al ab ar aa av ah kl kb kr ka kv kh:=by
 have key:∀ {α β:Type} {k k':Nat} {T:World→Value→α→Prop} {T':World→Value→β→Prop} {e e':TypeId} {B B':Nat} {x y:Option Addr} {n m c d:Nat} {l:List α} {l':List β},OwnRow k T e B w (.slice x n c) l→OwnRow k' T' e' B' w (.slice y m d) l'→Apt (.slice x n c) (.slice y m d)→x=y→x=none:=by
  intro α β k k' T T' e e' B B' x y n m c d l l' h1 h2 ha hxy
  subst hxy
  obtain ⟨E,⟨_,o⟩,-⟩:=h1
  rcases o with ⟨h3,_⟩ | ⟨g1,_,_,h3,_⟩
  ·simp only [Value.slice.injEq] at h3
   exact h3.1
  ·simp only [Value.slice.injEq] at h3
   rw [h3.1] at ha
   exact absurd rfl (ha g1 rfl)
 exact ⟨h.x0,hl,hx,h.rt,h.ob,h.or,h.oa,h.os,h.ov,h.oh,h.ds,key h.ob h.or h.db,key h.ov h.oh h.dv⟩
open Go.RowKit Go.Att Go.Sx

def mvBas (bas:Nat→Nat) (r k:Nat) (i:Nat):Nat:=if i=r then k else bas i
def mvRow (row:Nat→Int) (v k:Nat) (r:Int) (u:Nat):Int:=if u=v then -1 else if u=k then r else row u
theorem ix_mv {P:Bnd} {n0 m:Nat} {s:Stand} {bas:Nat→Nat} {row:Nat→Int} {v k:Nat} (h:Ix n0 m s bas row) (hv:v < n0+m) (hk:k < n0+m) (bv:s.D.B v=true) (bk:s.D.B k=false):
  Ix n0 m (mv P s v k) (mvBas bas (row v).toNat k) (mvRow row v k (row v)):=by
 have hkv:k≠v:=fun e=>by rw [e,bv] at bk;cases bk
 obtain ⟨h1,h2⟩:=h.rw2 v hv bv
 have h0:=(h.rw1 v hv).2.1 bv
 have hB:∀ u,(mv P s v k).D.B u=true↔u=k∨(s.D.B u=true∧u≠v):=fun u=>piv_B s.D v k u
 refine ⟨fun u hu=>?_,fun u hu bu=>?_,fun i hi=>?_⟩
 ·rw [hB]
  unfold mvRow
  by_cases e:u=v
  ·rw [if_pos e]
   refine ⟨by omega,fun h=>?_,fun h=>by omega⟩
   rcases h with h | h
   ·exact absurd (h.symm.trans e) hkv
   ·exact absurd e h.2
  ·rw [if_neg e]
   by_cases e2:u=k
   ·rw [if_pos e2];exact ⟨by omega,fun _=>h0,fun _=>.inl e2⟩
   ·rw [if_neg e2]
    refine ⟨(h.rw1 u hu).1,fun h3=>?_,fun h3=>.inr ⟨(h.rw1 u hu).2.2 h3,e⟩⟩
    rcases h3 with h3 | h3
    ·exact absurd h3 e2
    ·exact (h.rw1 u hu).2.1 h3.1
 ·rw [hB] at bu
  unfold mvRow mvBas
  by_cases e2:u=k
  ·rw [if_neg (fun e=>hkv (e2.symm.trans e)),if_pos e2,if_pos rfl];exact ⟨h1,e2.symm⟩
  ·rcases bu with bu | ⟨bu,e⟩
   ·exact absurd bu e2
   ·rw [if_neg e,if_neg e2]
    obtain ⟨h3,h4⟩:=h.rw2 u hu bu
    refine ⟨h3,?_⟩
    rw [if_neg fun e3=>?_]
    ·exact h4
    ·rw [e3,h2] at h4;exact e h4.symm
 ·unfold mvRow mvBas
  by_cases e:i=(row v).toNat
  ·rw [if_pos e]
   refine ⟨hk,?_⟩
   rw [if_neg hkv,if_pos rfl];omega
  ·rw [if_neg e]
   obtain ⟨h3,h4⟩:=h.bs i hi
   refine ⟨h3,?_⟩
   have e1:bas i≠v:=fun e1=>e (by rw [← e1,h4];rfl)
   have e2:bas i≠k:=fun e2=>by
    have:=(h.rw1 _ h3).2.2 (by omega)
    rw [e2,bk] at this
    cases this
   rw [if_neg e1,if_neg e2];exact h4
theorem ix_start (n0:Nat) (L:List AT):Ix n0 L.length (std0 n0 L) (fun i=>n0+i) (fun u=>if u < n0 then -1 else ((u - n0:Nat):Int)):=by
 have hB:∀ u,(std0 n0 L).D.B u=true↔n0≤u:=fun u=>by
  show decide (n0≤u)=true↔_
  simp
 refine ⟨fun u hu=>?_,fun u hu bu=>?_,fun i hi=>⟨by omega,?_⟩⟩
 ·rw [hB]
  by_cases e:u < n0
  ·rw [if_pos e];omega
  ·rw [if_neg e];omega
 ·rw [hB] at bu
  rw [if_neg (by omega)]
  omega
 ·rw [if_neg (by omega)]
  omega
end Go.Proofs.YthpaifdfafjlcaaGreat
