/- A group of texts: Atc, Bo1, PRatAbs, PACanon -/
import Derived.Test.YtdooldpgnjmpfaaGreatDoorSq
import Derived.Test.YtdooldpgnjmpfaaGreatDoorPartAH
import Derived.Test.YtdooldpgnjmpfaaGreatDoorPartAI
import Derived.Test.YtdooldpgnjmpfaaGreatDoorPartAD
import Derived.Test.YtdooldpgnjmpfaaGreatDoorPartAB
import Derived.Test.YtdooldpgnjmpfaaGreatDoorPartAE
import Derived.Test.YtdooldpgnjmpfaaGreatDoorPartCA
import Derived.Test.YtdooldpgnjmpfaaGreatDoorPartAG
namespace Go.Att

def insT (v:Int) (q:Rat):TL→TL
 | []=>if q=0 then [] else [(v,q)]
 | t :: l=>if v < t.1 then (if q=0 then t :: l else (v,q) :: t :: l) else if v=t.1 then (if q+t.2=0 then l else (v,q+t.2) :: l) else t :: insT v q l
theorem FormT.tl {t:Int × Rat} {l:TL} (h:FormT (t :: l)):FormT l:=⟨(List.pairwise_cons.1 h.1).2,fun u hu=>h.2 u (List.mem_cons_of_mem _ hu)⟩
theorem FormT.cons {t:Int × Rat} {l:TL} (h:FormT l) (h1:∀ u∈l,t.1 < u.1) (h2:t.2≠0):FormT (t :: l):=
 ⟨List.pairwise_cons.2 ⟨h1,h.1⟩,fun u hu=>(List.mem_cons.1 hu).elim (fun e=>e ▸ h2) (h.2 u)⟩
theorem insT_mem (v:Int) (q:Rat):∀ (l:TL),∀ u∈insT v q l,u.1=v∨∃ t∈l,t.1=u.1
 | [],u,hu=>by
  unfold insT at hu
  split at hu
  ·cases hu
  ·rw [List.mem_singleton.1 hu];exact .inl rfl
 | t :: l,u,hu=>by
  unfold insT at hu
  split at hu
  ·split at hu
   ·exact .inr ⟨u,hu,rfl⟩
   ·rcases List.mem_cons.1 hu with rfl | hu
    ·exact .inl rfl
    ·exact .inr ⟨u,hu,rfl⟩
  ·split at hu
   ·split at hu
    ·exact .inr ⟨u,List.mem_cons_of_mem _ hu,rfl⟩
    ·rcases List.mem_cons.1 hu with rfl | hu
     ·exact .inl rfl
     ·exact .inr ⟨u,List.mem_cons_of_mem _ hu,rfl⟩
   ·rcases List.mem_cons.1 hu with rfl | hu
    ·exact .inr ⟨u,List.mem_cons_self,rfl⟩
    ·rcases insT_mem v q l u hu with h | ⟨x,hx,h⟩
     ·exact .inl h
     ·exact .inr ⟨x,List.mem_cons_of_mem _ hx,h⟩
theorem insT_form (v:Int) (q:Rat):∀ {l:TL},FormT l→FormT (insT v q l)
 | [],_=>by
  unfold insT
  split
  ·exact FormT.nil
  ·rename_i h;exact FormT.cons FormT.nil (fun _ h=>by cases h) h
 | t :: l,h=>by
  have h1:=(List.pairwise_cons.1 h.1).1
  have h2:=h.2 t List.mem_cons_self
  unfold insT
  split
  ·rename_i hv
   split
   ·exact h
   ·rename_i hq
    exact FormT.cons h (fun u hu=>by
     rcases List.mem_cons.1 hu with rfl | hu
     ·exact hv
     ·have:=h1 u hu;show v < u.1;omega) hq
  ·split
   ·rename_i hv
    split
    ·exact h.tl
    ·rename_i hq
     exact FormT.cons h.tl (fun u hu=>by have:=h1 u hu;show v < u.1;omega) hq
   ·rename_i hv hv2
    refine FormT.cons (insT_form v q h.tl) (fun u hu=>?_) h2
    rcases insT_mem v q l u hu with h3 | ⟨x,hx,h3⟩
    ·omega
    ·have:=h1 x hx;omega
theorem insT_cf (v:Int) (q:Rat) (x:Int):∀ l:TL,cf (insT v q l) x=(if v=x then q else 0)+cf l x
 | []=>by
  unfold insT
  by_cases hq:q=0
  ·rw [if_pos hq,hq];show (0:Rat)=(if v=x then 0 else 0)+0;split <;> rw [Rat.add_zero]
  ·rw [if_neg hq];rfl
 | t :: l=>by
  unfold insT
  by_cases h1:v < t.1
  ·rw [if_pos h1]
   by_cases hq:q=0
   ·rw [if_pos hq,hq];show _=(if v=x then (0:Rat) else 0)+_;rw [show (if v=x then (0:Rat) else 0)=0 by split <;> rfl,Rat.zero_add]
   ·rw [if_neg hq];rfl
  ·rw [if_neg h1]
   by_cases h2:v=t.1
   ·rw [if_pos h2]
    show _=(if v=x then q else 0)+((if t.1=x then t.2 else 0)+cf l x)
    rw [← h2]
    by_cases h3:v=x
    ·rw [if_pos h3,if_pos h3]
     by_cases hq:q+t.2=0
     ·rw [if_pos hq,← Rat.add_assoc,hq,Rat.zero_add]
     ·rw [if_neg hq];show (if v=x then q+t.2 else 0)+_=_;rw [if_pos h3,Rat.add_assoc]
    ·rw [if_neg h3,if_neg h3,Rat.zero_add,Rat.zero_add]
     by_cases hq:q+t.2=0
     ·rw [if_pos hq]
     ·rw [if_neg hq];show (if v=x then q+t.2 else 0)+_=_;rw [if_neg h3,Rat.zero_add]
   ·rw [if_neg h2]
    show (if t.1=x then t.2 else 0)+cf (insT v q l) x=(if v=x then q else 0)+((if t.1=x then t.2 else 0)+cf l x)
    rw [insT_cf v q x l]
    grind
def canT:TL→TL
 | []=>[]
 | t :: l=>insT t.1 t.2 (canT l)
theorem canT_form:∀ l:TL,FormT (canT l)
 | []=>FormT.nil
 | _ :: l=>insT_form _ _ (canT_form l)
theorem canT_cf (x:Int):∀ l:TL,cf (canT l) x=cf l x
 | []=>rfl
 | t :: l=>by
  show cf (insT t.1 t.2 (canT l)) x=(if t.1=x then t.2 else 0)+cf l x
  rw [insT_cf,canT_cf x l]
theorem canT_uniq {l l':TL} (h:Canl l l'):l'=canT l:=FormT.uniq h.1 (canT_form l) fun v=>by rw [h.2,canT_cf]
theorem canT_id {l:TL} (h:FormT l):canT l=l:=(canT_uniq ⟨h,fun _=>rfl⟩).symm
theorem canT_var {l:TL} {u:Int × Rat} (h:u∈canT l):∃ t∈l,t.1=u.1:=by
 have h1:=((canT_form l).mem u.1).1 ⟨u,h,rfl⟩
 rw [canT_cf] at h1
 exact Classical.byContradiction fun hn=>h1 (cf_none fun t ht hv=>hn ⟨t,ht,hv⟩)
def sclT (r:Rat) (l:TL):TL:=l.map fun t=>(t.1,r*t.2)
theorem sclT_cf (r:Rat) (x:Int):∀ l:TL,cf (sclT r l) x=r*cf l x
 | []=>by show (0:Rat)=r*0;rw [Rat.mul_zero]
 | t :: l=>by
  show (if t.1=x then r*t.2 else 0)+cf (sclT r l) x=r*((if t.1=x then t.2 else 0)+cf l x)
  rw [sclT_cf r x l]
  split <;> grind
theorem sclT_form {r:Rat} {l:TL} (hr:r≠0) (h:FormT l):FormT (sclT r l):=by
 refine ⟨?_,fun u hu=>?_⟩
 ·unfold sclT
  rw [List.pairwise_map]
  exact h.1
 ·obtain ⟨t,ht,rfl⟩:=List.mem_map.1 hu
  have:=h.2 t ht
  intro h0
  rcases Rat.mul_eq_zero.1 h0 with h1 | h1
  ·exact hr h1
  ·exact this h1
theorem sclT_len (r:Rat) (l:TL):(sclT r l).length=l.length:=List.length_map ..
theorem sclT_one {l:TL}:sclT 1 l=l:=by
 unfold sclT
 conv=>rhs;rw [← List.map_id l]
 refine List.map_congr_left fun _ _=>?_
 rw [Rat.one_mul]
 rfl
def sclE (r:Rat) (l:TL):TL:=canT (sclT r l)
theorem sclE_uniq {r:Rat} {l l':TL} (h:FormT l') (h2:∀ x,cf l' x=r*cf l x):l'=sclE r l:=canT_uniq ⟨h,fun v=>by rw [h2,sclT_cf]⟩
theorem sclE_id {r:Rat} {l:TL} (hr:r≠0) (h:FormT l):sclE r l=sclT r l:=canT_id (sclT_form hr h)
theorem sclE_cf {r:Rat} {l:TL} (x:Int):cf (sclE r l) x=r*cf l x:=by unfold sclE;rw [canT_cf,sclT_cf]
def abq (q:Rat):Rat:=if q < 0 then -q else q
def facA (op:Int) (l:TL):Rat:=
 match l with
 | []=>1
 | t :: _=>if op=3 then t.2⁻¹ else (abq t.2)⁻¹
theorem inv_one1:(1:Rat)⁻¹=1:=by have h:=Rat.mul_inv_cancel (1:Rat) (by decide);rwa [Rat.one_mul] at h
theorem abq_ne {q:Rat} (h:q≠0):abq q≠0:=by
 unfold abq
 split
 ·intro h2;apply h;grind
 ·exact h
theorem facA_ne {op:Int} {l:TL} (h:FormT l):facA op l≠0:=by
 cases l with
 | nil=>show (1:Rat)≠0;decide
 | cons t l=>
  have h1:=h.2 t List.mem_cons_self
  unfold facA
  dsimp only
  split
  ·intro h2
   have:=Rat.mul_inv_cancel t.2 h1
   rw [h2,Rat.mul_zero] at this
   exact absurd this (by decide)
  ·intro h2
   have:=Rat.mul_inv_cancel (abq t.2) (abq_ne h1)
   rw [h2,Rat.mul_zero] at this
   exact absurd this (by decide)
def truA (op:Int) (c:Rat):Int:=if says op c=true then 1 else 2
def canA (a:AT):AT × Int:=
 if canT a.1.1=[] then ((([],0),0),truA a.2 a.1.2)
 else (((sclE (facA a.2 (canT a.1.1)) (canT a.1.1),facA a.2 (canT a.1.1)*a.1.2),a.2),0)
theorem canA_open {a:AT} (h:canT a.1.1≠[]):canA a=(((sclT (facA a.2 (canT a.1.1)) (canT a.1.1),facA a.2 (canT a.1.1)*a.1.2),a.2),0):=by
 unfold canA
 rw [if_neg h,sclE_id (facA_ne (canT_form _)) (canT_form _)]
theorem truA_ne (op:Int) (c:Rat):truA op c≠0:=by unfold truA;split <;> decide
theorem canA_zero {a:AT} (h:(canA a).2=0):canT a.1.1≠[]:=by
 intro h2
 unfold canA at h
 rw [if_pos h2] at h
 exact truA_ne _ _ h
theorem facA_scl {op:Int} {l:TL} (h:FormT l) (hl:l≠[]):facA op (sclT (facA op l) l)=1:=by
 cases l with
 | nil=>exact absurd rfl hl
 | cons t l=>
  have h1:=h.2 t List.mem_cons_self
  show (if op=3 then (facA op (t :: l)*t.2)⁻¹ else (abq (facA op (t :: l)*t.2))⁻¹)=1
  unfold facA
  dsimp only
  by_cases h3:op=3
  ·rw [if_pos h3,if_pos h3,Rat.inv_mul_cancel _ h1];exact inv_one1
  ·rw [if_neg h3,if_neg h3]
   have h4:abq ((abq t.2)⁻¹*t.2)=1:=by
    unfold abq
    by_cases h5:t.2 < 0
    ·rw [if_pos h5]
     have h6:(-t.2)⁻¹*t.2 = -1:=by
      have h7:(-t.2)⁻¹*(-t.2)=1:=Rat.inv_mul_cancel _ (fun h=>h1 (by grind))
      grind
     rw [h6,if_pos (by decide)]
     rfl
    ·rw [if_neg h5,Rat.inv_mul_cancel _ h1,if_neg (by decide)]
   rw [h4];exact inv_one1
theorem canA_idem {a:AT} (h:(canA a).2=0):canA (canA a).1=canA a:=by
 have hn:=canA_zero h
 have hf:=canT_form a.1.1
 rw [canA_open hn]
 have hs:=sclT_form (facA_ne (op:=a.2) hf) hf
 have hc:canT (sclT (facA a.2 (canT a.1.1)) (canT a.1.1))=sclT (facA a.2 (canT a.1.1)) (canT a.1.1):=canT_id hs
 have hne:sclT (facA a.2 (canT a.1.1)) (canT a.1.1)≠[]:=fun h=>hn (by
  have:=congrArg List.length h
  rw [sclT_len] at this
  exact List.eq_nil_of_length_eq_zero this)
 rw [canA_open (by dsimp only;rw [hc];exact hne)]
 dsimp only
 rw [hc,facA_scl hf hn,sclT_one,Rat.one_mul]
theorem canA_op {a:AT} (h:(canA a).2=0):(canA a).1.2=a.2:=by rw [canA_open (canA_zero h)]
theorem canA_var {a:AT} {u:Int × Rat} (h:(canA a).2=0) (hu:u∈(canA a).1.1.1):∃ t∈a.1.1,t.1=u.1:=by
 rw [canA_open (canA_zero h)] at hu
 obtain ⟨t,ht,rfl⟩:=List.mem_map.1 hu
 exact canT_var (u:=t) ht
def oppA (a:AT):AT:=((sclE (-1) a.1.1,(-1)*a.1.2),3 - a.2)
open Go.RowKit
theorem Bo.c1 {w:World} {b o:Nat} {x0:Value} {l:List Value} (h:Bo w b o (x0 :: l)):w.cell? ⟨b,o,none⟩=some x0:=h 0 _ rfl
theorem Bo.one {w:World} {b o:Nat} {x:Value} (h:w.cell? ⟨b,o,none⟩=some x):Bo w b o [x]:=fun j v hv=>by
 cases j with
 | zero=>simp at hv;subst hv;exact h
 | succ j=>simp at hv
theorem Bx.keepC {w w':World} {b:Nat} {cs:List Value} (h:Bx w b cs) (hk:w'.heap[b]?=w.heap[b]?):Bx w' b cs:=fun i v hv=>by
 have h1:=h i v hv
 rw [← h1]
 exact World.cell?_of_block hk
@[irreducible] def absQ (q:Rat):Rat:=mkQ false q.num.natAbs q.den
theorem absQ_abs (q:Rat):(absQ q).num.natAbs=q.num.natAbs:=by unfold absQ;rw [mkQ_abs _ _ _ q.den_nz,show Nat.gcd q.num.natAbs q.den=1 from q.reduced,Nat.div_one]
theorem absQ_den (q:Rat):(absQ q).den=q.den:=by unfold absQ;rw [mkQ_den _ _ _ q.den_nz,show Nat.gcd q.num.natAbs q.den=1 from q.reduced,Nat.div_one]
theorem absQ_neg (q:Rat):decide ((absQ q).num < 0)=false:=by unfold absQ;rw [mkQ_neg _ _ _ q.den_nz];rfl
theorem Sz.absQ {L:Nat} {q:Rat} (h:Sz L q):Sz L (absQ q):=⟨by rw [absQ_abs];exact h.1,by rw [absQ_den];exact h.2⟩
end Go.Att
namespace Go.Proofs.YtdooldpgnjmpfaaGreatDoor
open Go.RowKit Go.Att

end Go.Proofs.YtdooldpgnjmpfaaGreatDoor

namespace Go.Att
open Go.RowKit
theorem absQ_abq (q:Rat):absQ q=abq q:=by
 have h1:=absQ_abs q
 have h2:=absQ_den q
 have h3:¬ (absQ q).num < 0:=of_decide_eq_false (absQ_neg q)
 unfold abq
 by_cases h:q < 0
 ·rw [if_pos h]
  have h4:¬ 0≤q.num:=fun h0=>Rat.not_le.2 h (Rat.num_nonneg.1 h0)
  refine Rat.ext ?_ (by rw [Rat.neg_den];exact h2)
  rw [Rat.neg_num]
  omega
 ·rw [if_neg h]
  have h4:0≤q.num:=Rat.num_nonneg.2 (Rat.not_lt.1 h)
  refine Rat.ext ?_ h2
  omega
def Sm3 (a:AT):Prop:=a.1.1.length≤12∧(∀ t∈a.1.1,Sz 230 t.2)∧Sz 230 a.1.2
end Go.Att
namespace Go.Proofs.YtdooldpgnjmpfaaGreatDoor
open Go.RowKit Go.Att

theorem owna_nil (w:World):OwnA w (.agg #[.slice none 0 0,.bool false,.slice none 0 0,.slice none 0 0,.int .i64 0]) (([],0),0):=⟨_,_,_,_,rfl,⟨_,_,_,_,rfl,OwnRow.nil _ _ _,ownq_nil _ _⟩⟩
theorem rabs_own {e:TypeId} {B:Nat} {w:World} {v:Value} {q:Rat} (hq:OwnQ e B w v q):
  Calls Tryz.prog 50 #[v] w (Gives w fun v' w'=>OwnQ e B w' v' (absQ q)):=by
 refine via fun R hR=>?_
 have hs:=absQ_neg q
 have ha:=absQ_abs q
 have hb:=absQ_den q
 generalize absQ q=r at*
 obtain ⟨n,d,rfl,hn,hd⟩:=hq
 have HN:=Lib.hid hn
 have HD:=Lib.hid hd
 have HT:Hid (false=decide (r.num < 0)):=hs.symm
 have HA:=Lib.hid ha
 have HB:=Lib.hid hb
 obtain ⟨a,c,rfl,-,-,-,-⟩:=HN.out.rd.1.shape
 obtain ⟨a',c',rfl,-,-,-,-⟩:=HD.out.rd.1.shape
 clear hn hd hs ha hb
 go_enter Tryz.func50,Tryz.ntmps50
 go_wp2_with fail
 refine bodyPost_ret (v:=.agg #[.bool false,.slice a (limbs q.num.natAbs).length c,.slice a' (dens q.den).length c']) (by simp [results,Tryz.results50,go_sem]) rfl ?_
 have xx:Ext w ((w.alloc (.cells #[.bool false,.slice a (limbs q.num.natAbs).length c,.slice a' (dens q.den).length c'] 59)).alloc (.cells #[.bool false,.slice a (limbs q.num.natAbs).length c,.slice a' (dens q.den).length c'] 59)):=(Ext.alloc _ _).trans (Ext.alloc _ _)
 exact hR.out _ _ (Gives.mk xx ⟨_,_,agg_eq HT.out,by rw [HA.out];exact HN.out.ext xx,by rw [HB.out];exact HD.out.ext xx⟩)
set_option linter.unusedSimpArgs false in
set_option maxHeartbeats 20000000 in
set_option maxRecDepth 100000 in
theorem acanon_any {w:World} {v:Value} {a:AT} (hv:OwnA w v a) (hop:1≤a.2∧a.2≤3) (hs:Sm3 a):
  Calls Tryz.prog 30 #[v] w (Gives w fun v' w'=>∃ u,v'=.tuple #[u,.int .i64 (canA a).2,.int .i64 0]∧OwnA w' u (canA a).1):=by
 refine via fun R hR=>?_
 have HA:=Lib.hid hv
 obtain ⟨a0,k,s,b,m,d,b',m',d',rfl,HX⟩:=hv.op
 have HCK:Hid (∀ w',Ext w w'→Calls Tryz.prog 15 #[.agg #[.slice a0 a.1.1.length k,.bool s,.slice b m d,.slice b' m' d',.int .i64 a.2]] w' (Gives w' fun v' _=>v'=.int .i64 0)):=fun w' x=>by
  have h:=check9_any (HA.out.ext x)
  rw [show chk a.2=0 from if_pos hop] at h
  exact h
 have HLC:Hid (∀ w',Ext w w'→Calls Tryz.prog 48 #[.agg #[.slice a0 a.1.1.length k,.bool s,.slice b m d,.slice b' m' d']] w' (Gives w' fun v' w'=>(canT a.1.1).length≤12∧(∀ t∈canT a.1.1,Sz 2773 t.2)∧OwnX 0 w' v' (canT a.1.1) a.1.2)):=fun w' x=>by
  refine (canon_any 230 (HX.out.rd.ext x) hs.2.1 (by have:=hs.1;omega) (by decide)).mono ?_
  rintro _ _ ⟨v,e,bb,l',h1,h2,h3,o⟩
  have he:=canT_uniq h1
  subst he
  exact ⟨v,e,bb,Nat.le_trans h3 hs.1,fun t ht=>(h2 t ht).le (by have:=hs.1;omega),o.mono (Nat.zero_le _)⟩
 have HSC:=Lib.hid hs.2.2
 have HFT:=Lib.hid (canT_form a.1.1)
 have HOP:=Lib.hid hop
 have HNIL:Hid (canT a.1.1=[]→(canA a).1=(([],0),0)∧(canA a).2=truA a.2 a.1.2):=fun h=>by unfold canA;rw [if_pos h];exact ⟨rfl,rfl⟩
 have HOPN:Hid (canT a.1.1≠[]→(canA a).1=((sclE (facA a.2 (canT a.1.1)) (canT a.1.1),facA a.2 (canT a.1.1)*a.1.2),a.2)∧(canA a).2=0):=fun h=>by unfold canA;rw [if_neg h];exact ⟨rfl,rfl⟩
 clear hv hop hs HX HA
 obtain ⟨ca,hca⟩:∃ ca,canA a=ca:=⟨_,rfl⟩
 rw [hca] at hR HNIL HOPN
 obtain ⟨c1a,c2a⟩:=ca
 dsimp only at hR HNIL HOPN
 clear hca
 obtain ⟨⟨l0,cc⟩,op⟩:=a
 dsimp only at*
 generalize canT l0=l at*
 generalize l0.length=n at*
 obtain ⟨w1,hw1,b1,c1,c2,-,-,hsz⟩:=bx2 w [.slice a0 n k,.bool s,.slice b m d,.slice b' m' d',.int .i64 op] [.slice none 0 0,.bool false,.slice none 0 0,.slice none 0 0,.int .i64 0] 63 63
 have HW:=Lib.hid hw1
 have C1:=Lib.hid c1
 have R2:Hid (Rt w1 (w.heap.size+1) 5 63):=by
  show Rt _ _ _ _
  rw [hw1]
  have:=Rt.new (w.alloc (.cells #[.slice a0 n k,.bool s,.slice b m d,.slice b' m' d',.int .i64 op] 63)) [.slice none 0 0,.bool false,.slice none 0 0,.slice none 0 0,.int .i64 0] 63
  simpa using this
 clear hw1 c1 c2
 go_enter Tryz.func30,Tryz.ntmps30
 go_upto_region 1 with (fail)
 rw [← HW.out]
 clear HW
 obtain ⟨k0,k1,k2,k3,k4⟩:=C1.out.c5
 go_upto_region 2 with (go_at_call 15;refine (HCK.out _ b1).mono ?_;rintro e w2 ⟨v2,rfl,X2,rfl⟩)
 clear k0 k1 k2 k3 k4 HCK
 obtain ⟨k0,k1,k2,k3,k4⟩:=(C1.out.ext X2).c5
 go_upto_region 5 with (go_at_call 48;refine (HLC.out _ (Ext.trans b1 X2)).mono ?_;rintro e w3 ⟨v3,rfl,X3,h12,hz3,o3⟩;obtain ⟨a3,k3',s3,b3,m3,d3,b3',m3',d3',rfl,-,-,O3⟩:=o3.op;obtain ⟨w4,hw4,b4,c4,-,hs4⟩:=bx1 w3 [.slice a3 l.length k3',.bool s3,.slice b3 m3 d3,.slice b3' m3' d3'] 61;have HW:=Lib.hid hw4;have C4:=Lib.hid c4;have HZ3:=Lib.hid hz3;have H12:=Lib.hid h12;have HS4:=Lib.hid hs4;clear hw4 c4 hz3 h12 o3 hs4)
 rw [← HW.out]
 clear HW k0 k1 k2 k3 k4 HLC
 have x4:Ext w1 w4:=Ext.trans X2 (Ext.trans X3 b4)
 obtain ⟨k0,k1,k2,k3,k4⟩:=(C1.out.ext x4).c5
 obtain ⟨q0,q1,q2,q3⟩:=C4.out.c4
 have hx14:=Below.size (Ext.trans X2 X3)
 by_cases h0:l.length=0
 ·have hl:l=[]:=List.eq_nil_of_length_eq_zero h0
  obtain ⟨hc1,hc2⟩:=HNIL.out hl
  have HC1:=Lib.hid hc1
  have HC2:=Lib.hid hc2
  clear hc1 hc2 HNIL HOPN hl
  generalize l.length=ll at*
  subst h0
  have HSY:Hid (∀ w',Ext w4 w'→Calls Tryz.prog 49 #[.int .i64 op,.agg #[.bool s3,.slice b3 m3 d3,.slice b3' m3' d3']] w' (Gives w' fun v' _=>v'=.bool (says op cc))):=fun w' x=>by
   obtain ⟨_,_,_,_,he,-,h⟩:=O3.out
   simp only [Value.agg.injEq,Array.mk.injEq,List.cons.injEq,and_true] at he
   obtain ⟨rfl,rfl,rfl,rfl⟩:=he
   exact says_any (h.ext (Ext.trans b4 x))
  unfold truA at HC2
  go_upto_region 6 with fail
  cases hsy:says op cc with
  | true=>
   rw [hsy] at HC2 HSY
   rw [if_pos rfl] at HC2
   go_wp2_with fail
   refine (HSY.out _ (Ext.refl _)).mono ?_
   rintro e w5 ⟨_,rfl,X5,rfl⟩
   have x5:=Ext.trans x4 X5
   obtain ⟨_,_,_,_,_,j0,j1,j2,j3,j4,i0,i1,i2,i3,i4⟩:=(R2.out.ext x5).c5
   go_wp2_with fail
   refine bodyPost_ret (v:=.tuple #[.agg #[.slice none 0 0,.bool false,.slice none 0 0,.slice none 0 0,.int .i64 0],.int .i64 1,.int .i64 0]) (by simp [results,Tryz.results30,go_sem,j0,j1,j2,j3,j4]) rfl ?_
   exact hR.out _ _ (Gives.mk (putL_below (by omega) [_,_,_,_,_] 0 (Ext.trans b1 x5)) ⟨_,by rw [HC2.out],by rw [HC1.out];exact owna_nil _⟩)
  | false=>
   rw [hsy] at HC2 HSY
   rw [if_neg (by decide)] at HC2
   go_wp2_with fail
   refine (HSY.out _ (Ext.refl _)).mono ?_
   rintro e w5 ⟨_,rfl,X5,rfl⟩
   have x5:=Ext.trans x4 X5
   obtain ⟨_,_,_,_,_,j0,j1,j2,j3,j4,i0,i1,i2,i3,i4⟩:=(R2.out.ext x5).c5
   go_wp2_with fail
   refine bodyPost_ret (v:=.tuple #[.agg #[.slice none 0 0,.bool false,.slice none 0 0,.slice none 0 0,.int .i64 0],.int .i64 2,.int .i64 0]) (by simp [results,Tryz.results30,go_sem,j0,j1,j2,j3,j4]) rfl ?_
   exact hR.out _ _ (Gives.mk (putL_below (by omega) [_,_,_,_,_] 0 (Ext.trans b1 x5)) ⟨_,by rw [HC2.out],by rw [HC1.out];exact owna_nil _⟩)
 ·have hln:l≠[]:=fun h=>h0 (by rw [h];rfl)
  obtain ⟨hc1,hc2⟩:=HOPN.out hln
  have HC1:=Lib.hid hc1
  have HC2:=Lib.hid hc2
  clear hc1 hc2 HNIL HOPN
  have d0:((l.length:Int) == 0)=false:=beqF (by omega)
  have d0':decide ((l.length:Int)=0)=false:=decide_eq_false (by omega)
  have hpos:0 < l.length:=by omega
  obtain ⟨_,_,_,_,he,HRW,-⟩:=O3.out
  simp only [Value.agg.injEq,Array.mk.injEq,List.cons.injEq,and_true] at he
  obtain ⟨rfl,rfl,rfl,rfl⟩:=he
  have HR4:=HRW.rd.ext OwnTm.ext b4
  obtain ⟨bT,oT,rfl⟩:=HR4.some_at hpos
  obtain ⟨sx,ax,lx,mx,ay,ly,my,hB4,hQ4⟩:=HR4.tm 0 hpos
  obtain ⟨u0,u1,u2,u3⟩:=hB4
  rw [Nat.zero_mul,Nat.add_zero] at u0 u1 u2 u3
  obtain ⟨t,l',hl⟩:∃ t l',l=t :: l':=by cases l with
   | nil=>exact absurd rfl hln
   | cons t l'=>exact ⟨t,l',rfl⟩
  have hg0:gt l 0=t:=by rw [gt_lt hpos];subst hl;rfl
  rw [hg0] at hQ4 u0
  have HFA:Hid (facA op l=if op=3 then t.2⁻¹ else (abq t.2)⁻¹):=by subst hl;rfl
  have HT2:Hid (Sz 2773 t.2∧t.2≠0):=⟨HZ3.out _ (by rw [hl];exact List.mem_cons_self),HFT.out.2 _ (by rw [hl];exact List.mem_cons_self)⟩
  have HQ4:=Lib.hid hQ4
  have HPOS:(0:Int)≤0∧(0:Int) < (l.length:Int):=⟨by omega,by omega⟩
  clear hl hg0 hQ4 HRW HR4 hln h0 hpos
  generalize t.2=q at*
  obtain ⟨w5,hw5,b5,c5,-,hs5⟩:=bx1 w4 [.bool sx,.slice ax lx mx,.slice ay ly my] 59
  have HW:=Lib.hid hw5
  have R5:Hid (Rt w5 w4.heap.size 3 59):=by
   show Rt _ _ _ _
   rw [hw5]
   exact Rt.new w4 [.bool sx,.slice ax lx mx,.slice ay ly my] 59
  have C5:=Lib.hid c5
  clear hw5 c5
  go_upto_region 10 with (fail)
  rw [← HW.out]
  clear HW u0 u1 u2 u3 k0 k1 k2 k3 k4 q0 q1 q2 q3
  have x5:=Ext.trans x4 b5
  obtain ⟨k0,k1,k2,k3,k4⟩:=(C1.out.ext x5).c5
  obtain ⟨j0,j1,j2⟩:=C5.out.c3
  go_upto_if 37 with (fail)
  go_cut [7] (fun s7 wx=>s7=.pointer (some ⟨w4.heap.size,0,none⟩)∧Ext w4 wx∧∃ (sr:Bool) (ar:Option Addr) (lr mr:Nat) (ar':Option Addr) (lr' mr':Nat),Hid (Bx wx w4.heap.size [.bool sr,.slice ar lr mr,.slice ar' lr' mr'])∧Hid (OwnQ 119 0 wx (.agg #[.bool sr,.slice ar lr mr,.slice ar' lr' mr']) (if op=3 then q else abq q)))
  case first=>
   as_aux_lemma=>
    by_cases h3:op=3
    ·have e3:(op != 3)=false:=bneF h3
     go_wp2_with fail
     go_meet
     exact ⟨rfl,b5,sx,ax,lx,mx,ay,ly,my,C5,by rw [if_pos h3];exact HQ4.out.ext b5⟩
    ·have e3:(op != 3)=true:=bneT h3
     go_wp2_with fail
     refine (rabs_own (HQ4.out.ext b5)).mono ?_
     rintro e w6 ⟨v6,rfl,X6,Q6⟩
     obtain ⟨s6,a6,l6,c6,a6',l6',c6',rfl,O6⟩:=Q6.op
     clear Q6
     obtain ⟨_,_,_,g0,g1,g2,i0,i1,i2⟩:=(R5.out.ext X6).rm.c3
     go_wp2_with fail
     go_meet
     exact ⟨rfl,putL_below (Nat.le_refl _) [_,_,_] 0 (Ext.trans b5 X6),_,_,_,_,_,_,_,((R5.out.ext X6).putL_at [_,_,_] rfl).1,by
      rw [if_neg h3,← absQ_abq]
      exact O6.out.putT (R5.out.ext X6) (by decide) 0 [_,_,_]⟩
  case rest=>
   as_aux_lemma=>
    obtain ⟨rfl,X45,sr,ar,lr,mr,ar',lr',mr',hC7,hQ7⟩:=hcut
    obtain ⟨w7,hw7⟩:∃ w0:World,w0=wc:=⟨_,rfl⟩
    subst hw7
    have hab:abq q≠0:=abq_ne HT2.out.2
    have HQN:Hid ((if op=3 then q else abq q)≠0∧Sz 2773 (if op=3 then q else abq q)∧(if op=3 then q else abq q)⁻¹=facA op l):=by
     rw [HFA.out]
     split
     ·exact ⟨HT2.out.2,HT2.out.1,rfl⟩
     ·exact ⟨hab,by rw [← absQ_abq];exact HT2.out.1.absQ,rfl⟩
    clear hab
    generalize (if op=3 then q else abq q)=qq at*
    clear k0 k1 k2 k3 k4 j0 j1 j2 HFA HT2 HQ4 C5 R5
    obtain ⟨j0,j1,j2⟩:=hC7.out.c3
    have x7:=Ext.trans x4 X45
    have HX7:=Lib.hid x7
    have HX47:=Lib.hid X45
    go_upto_region 13 with (go_at_call 51;refine (rinv_any hQ7.out.rd (HQN.out.2.1.le (by decide)) (fun h=>HQN.out.1 (Rat.num_eq_zero.1 h))).mono ?_;rintro e w8 ⟨_,rfl,X8,o,rfl,q8⟩;have q9:=q8.mono (Nat.zero_le _);obtain ⟨s8,a8,l8,c8,a8',l8',c8',rfl,Q8⟩:=q9.op;obtain ⟨w9,hw9,b9,c9,-,hs9⟩:=bx1 w8 [.bool s8,.slice a8 l8 c8,.slice a8' l8' c8'] 59;have HW:=Lib.hid hw9;have C9:=Lib.hid c9;clear hw9 c9 q8 q9)
    rw [← HW.out]
    clear HW j0 j1 j2
    have HEQ:Hid (qq⁻¹=facA op l):=HQN.out.2.2
    have HSQ:Hid (Sz 2774 (facA op l)):=by
     show Sz _ _
     rw [← HEQ.out]
     exact HQN.out.2.1.inv
    rw [HEQ.out] at Q8
    clear HQN HEQ
    have x89:=Ext.trans X8 b9
    have x9:=Ext.trans x7 x89
    have hz8:=Below.size X8
    have hz7:=Below.size X45
    have C19:=Lib.hid (C1.out.ext x9)
    have C49:=Lib.hid (C4.out.ext (Ext.trans X45 x89))
    have HSCL:Hid (∀ w',Ext w9 w'→Calls Tryz.prog 52 #[.agg #[.bool s8,.slice a8 l8 c8,.slice a8' l8' c8'],.agg #[.slice (some ⟨bT,oT,none⟩) l.length k3',.bool s3,.slice b3 m3 d3,.slice b3' m3' d3']] w' (Gives w' fun v' w'=>OwnX 0 w' v' (sclE (facA op l) l) (facA op l*cc))):=fun w' x=>by
     refine (lscale_any 2774 2773 230 (Q8.out.ext (Ext.trans b9 x)) (O3.out.rd.ext (Ext.trans b4 (Ext.trans X45 (Ext.trans x89 x)))) HSQ.out HZ3.out HSC.out (by have:=H12.out;omega) (by decide) (by decide)).mono ?_
     rintro _ _ ⟨v,e,bb,l',h1,h2,-,-,o⟩
     have he:=sclE_uniq h1 h2
     subst he
     exact ⟨v,e,bb,o.mono (Nat.zero_le _)⟩
    generalize sclE (facA op l) l=l2 at*
    generalize facA op l*cc=cc2 at*
    have hne1:w.heap.size≠w.heap.size+1:=by omega
    have hne4:w3.heap.size≠w.heap.size+1:=by omega
    have hne8:w8.heap.size≠w.heap.size+1:=by have:=HS4.out;omega
    have b10:=drew_ext w9
    have XE:=b10
    refine wp_region_noPanic ?_
    refine wp_region_held_drew (S:=fun w'=>(w'.cell? ⟨w8.heap.size,0,none⟩=some (.bool s8)∧w'.cell? ⟨w8.heap.size,1,none⟩=some (.slice a8 l8 c8)∧w'.cell? ⟨w8.heap.size,2,none⟩=some (.slice a8' l8' c8'))∧(w'.cell? ⟨w3.heap.size,0,none⟩=some (.slice (some ⟨bT,oT,none⟩) l.length k3')∧w'.cell? ⟨w3.heap.size,1,none⟩=some (.bool s3)∧w'.cell? ⟨w3.heap.size,2,none⟩=some (.slice b3 m3 d3)∧w'.cell? ⟨w3.heap.size,3,none⟩=some (.slice b3' m3' d3'))∧(w'.cell? ⟨w.heap.size,0,none⟩=some (.slice a0 n k)∧w'.cell? ⟨w.heap.size,1,none⟩=some (.bool s)∧w'.cell? ⟨w.heap.size,2,none⟩=some (.slice b m d)∧w'.cell? ⟨w.heap.size,3,none⟩=some (.slice b' m' d')∧w'.cell? ⟨w.heap.size,4,none⟩=some (.int .i64 op))) (by kernel_rfl) (⟨(C9.out.ext XE).c3,(C49.out.ext XE).c4,(C19.out.ext XE).c5⟩) (fun hHeld=>?_)
    refine tkH 0 hHeld ?_
    simp only [jP,jA,jB,jC,jD,jE,jF]
    refine tkH 1 hHeld ?_
    simp only [jP,jA,jB,jC,jD,jE,jF]
    refine tkH 3 hHeld ?_
    simp only [jP,jA,jB,jC,jD,jE,jF]
    refine tkH 4 hHeld ?_
    simp only [jP,jA,jB,jC,jD,jE,jF]
    refine rdH 2 (by kernel_rfl) rfl (fun K hK=>?_)
    go_simp
    go_at_call 52;refine (HSCL.out _ XE).mono ?_;rintro e w11 ⟨v11,rfl,b11,o11⟩;have O11:=Lib.hid o11;clear o11;(first | have XE:=Ext.trans XE b11 | have XE:=Ext.trans (Ext.trans XE (Ext.alloc _ _)) b11);obtain ⟨ar2,kr2,sr2,br2,mr2,dr2,br2',mr2',dr2',rfl,-,-,HX2⟩:=OwnEx.op O11.out
    go_wp2_with fail
    refine hK.out _ _ (⟨(C9.out.ext XE).c3,(C49.out.ext XE).c4,(C19.out.ext XE).c5⟩) (fun hHeld=>?_)
    clear hK K
    try simp only [jP,jA,jB,jC,jD,jE,jF]
    refine tkH 5 hHeld ?_
    simp only [jP,jA,jB,jC,jD,jE,jF]
    obtain ⟨_,_,_,_,_,j0,j1,j2,j3,j4,i0,i1,i2,i3,i4⟩:=(R2.out.ext (Ext.trans x9 XE)).c5
    refine rdH 6 (by kernel_rfl) rfl (fun K hK=>?_)
    go_simp
    refine hK.out _ _ (⟨((C9.out.ext XE).keepC (putL_block (w.heap.size+1) hne8 [_,_,_,_,_] _ 0)).c3,((C49.out.ext XE).keepC (putL_block (w.heap.size+1) hne4 [_,_,_,_,_] _ 0)).c4,((C19.out.ext XE).keepC (putL_block (w.heap.size+1) hne1 [_,_,_,_,_] _ 0)).c5⟩) (fun hHeld=>?_)
    clear hK K
    try simp only [jP,jA,jB,jC,jD,jE,jF]
    refine tkH 7 hHeld ?_
    simp only [jP,jA,jB,jC,jD,jE,jF]
    refine tkH 8 hHeld ?_
    simp only [jP,jA,jB,jC,jD,jE,jF]
    refine wpAnyH_done (by kernel_rfl) ?_ _
    refine NoPanic.normal ?_
    have xx9:=Ext.trans x9 XE
    go_wp2_with fail
    refine bodyPost_ret (v:=.tuple #[.agg #[.slice ar2 l2.length kr2,.bool sr2,.slice br2 mr2 dr2,.slice br2' mr2' dr2',.int .i64 op],.int .i64 0,.int .i64 0]) (by simp [results,Tryz.results30,go_sem,j0,j1,j2,j3,j4]) rfl ?_
    exact hR.out _ _ (Gives.mk (putL_below (by omega) [_,_,_,_,_] 0 (Ext.trans b1 xx9)) ⟨_,by rw [HC2.out],by
     rw [HC1.out]
     exact ⟨_,_,_,_,rfl,(HX2.out.mono (Nat.zero_le _)).putT (R2.out.ext xx9) (by decide) (by decide) 0 [_,_,_,_,_]⟩⟩)
end Go.Proofs.YtdooldpgnjmpfaaGreatDoor
