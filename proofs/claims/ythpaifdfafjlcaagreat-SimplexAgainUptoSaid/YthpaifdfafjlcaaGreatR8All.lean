/- A group of texts: EvL, PR8Coef, PLinEval, LinP, PR8Form, PR8Vars, PTold17, PDelta, PIs05, PDelta2, PSpan, PSpan2, PRef17, RowOne, PR8Means, PTold8, PExpr8, PLinReps -/
import Derived.Test.YthpaifdfafjlcaaGreatSq
import Derived.Test.YthpaifdfafjlcaaGreatLinPlain
import Derived.Test.YthpaifdfafjlcaaGreatNumsAll
import Derived.Test.YthpaifdfafjlcaaGreatRowAll
import Derived.Test.YthpaifdfafjlcaaGreatLinAll
import Derived.Test.YthpaifdfafjlcaaGreatRef5All
import Derived.Test.YthpaifdfafjlcaaGreatRatAll
import Derived.Test.YthpaifdfafjlcaaGreatRatPlain
import Derived.Test.YthpaifdfafjlcaaGreatRefAll
namespace Go.Att
open Go.RowKit

theorem Bo.c3 {w:World} {b o:Nat} {x0 x1 x2:Value} {l:List Value} (h:Bo w b o (x0 :: x1 :: x2 :: l)):w.cell? ⟨b,o,none⟩=some x0∧w.cell? ⟨b,o+1,none⟩=some x1∧w.cell? ⟨b,o+2,none⟩=some x2:=
 ⟨h 0 _ rfl,h 1 _ rfl,h 2 _ rfl⟩
def tmv (P:List Rat) (t:Int × Rat):Rat:=if 0≤t.1∧t.1 < P.length then t.2*gt P t.1.toNat else 0
def tv (P:List Rat):TL→Rat
 | []=>0
 | t :: l=>tmv P t+tv P l
def smv (F:Int→Rat):List Rat→Nat→Rat
 | [],_=>0
 | p :: P,k=>F k*p+smv F P (k+1)
theorem smv_add (F G:Int→Rat) (P:List Rat):∀ k,smv (fun x=>F x+G x) P k=smv F P k+smv G P k:=by
 induction P with
 | nil=>intro k;show (0:Rat)=0+0;rw [Rat.add_zero]
 | cons p P ih=>intro k;show (F k+G k)*p+smv _ P (k+1)=(F k*p+smv F P (k+1))+(G k*p+smv G P (k+1));rw [ih];grind
theorem smv_mul (F:Int→Rat) (r:Rat) (P:List Rat):∀ k,smv (fun x=>r*F x) P k=r*smv F P k:=by
 induction P with
 | nil=>intro k;show (0:Rat)=r*0;rw [Rat.mul_zero]
 | cons p P ih=>intro k;show (r*F k)*p+smv _ P (k+1)=r*(F k*p+smv F P (k+1));rw [ih];grind
theorem smv_zero (P:List Rat):∀ k,smv (fun _=>0) P k=0:=by
 induction P with
 | nil=>intro k;rfl
 | cons p P ih=>intro k;show 0*p+smv _ P (k+1)=0;rw [ih,Rat.zero_mul,Rat.add_zero]
theorem smv_one (x:Int) (q:Rat) (P:List Rat):∀ k:Nat,smv (fun y=>if x=y then q else 0) P k=if (k:Int)≤x∧x < k+P.length then q*gt P (x - k).toNat else 0:=by
 induction P with
 | nil=>intro k;rw [if_neg (fun h=>by have h1:=h.1;have h2:=h.2;simp at h2;omega)];rfl
 | cons p P ih=>
  intro k
  show (if x=(k:Int) then q else 0)*p+smv _ P (k+1)=_
  rw [ih]
  by_cases h:x=(k:Int)
  ·rw [if_pos h,if_neg (by omega),if_pos ⟨by omega,by simp;omega⟩,Rat.add_zero,show (x - (k:Int)).toNat=0 by omega]
   rfl
  ·rw [if_neg h,Rat.zero_mul,Rat.zero_add]
   by_cases h2:(k:Int)≤x∧x < k+(p :: P).length
   ·have h3:=h2.2
    simp at h3
    rw [if_pos (by omega),if_pos h2,show (x - (k:Int)).toNat=(x - ((k+1:Nat):Int)).toNat+1 by omega]
    rfl
   ·rw [if_neg h2,if_neg]
    intro h4
    apply h2
    simp
    omega
theorem tv_smv (P:List Rat) (l:TL):tv P l=smv (cf l) P 0:=by
 induction l with
 | nil=>exact (smv_zero P 0).symm
 | cons t l ih=>
  show tmv P t+tv P l=smv (fun v=>(if t.1=v then t.2 else 0)+cf l v) P 0
  rw [smv_add,smv_one,ih]
  congr 1
  unfold tmv
  simp
theorem smv_congr {F G:Int→Rat} (h:∀ x,F x=G x) (P:List Rat) (k:Nat):smv F P k=smv G P k:=by rw [funext h]
theorem gt_mem' {P:List Rat} {i:Nat} (h:i < P.length):gt P i∈P:=by rw [gt_lt h];exact List.getElem_mem h
theorem smv_take (F:Int→Rat) {P:List Rat} {j:Nat} (hj:j < P.length):smv F (P.take (j+1)) 0=smv F (P.take j) 0+F j*gt P j:=by
 have key:∀ (P:List Rat) (q:Rat) (k:Nat),smv F (P ++ [q]) k=smv F P k+F (k+P.length:Nat)*q:=by
  intro P q
  induction P with
  | nil=>intro k;show F k*q+0=0+_;rw [Rat.add_zero,Rat.zero_add];rfl
  | cons p P ih=>
   intro k
   show F k*p+smv F (P ++ [q]) (k+1)=(F k*p+smv F P (k+1))+_
   rw [ih,Rat.add_assoc,show k+1+P.length=k+(p :: P).length by simp;omega]
 rw [← List.take_append_getElem hj,key,gt_lt hj,List.length_take,Nat.zero_add,Nat.min_eq_left (by omega)]
theorem RdRow.oq {e:TypeId} {w:World} {a:Option Addr} {n c:Nat} {l:List Rat} (h:RdRow 3 (OwnQp e) w (.slice a n c) l) (i:Nat) (hi:i < l.length):
  ∃ b off s x k m y k' m',a=some ⟨b,off,none⟩∧Bo w b (off+i*3) [.bool s,.slice x k m,.slice y k' m']∧OwnQ e 0 w (.agg #[.bool s,.slice x k m,.slice y k' m']) (gt l i):=by
 obtain ⟨b1,o1,cs,he,hl,hT,hc⟩:=h.at (by decide) i hi
 obtain ⟨s,x,k,m,y,k',m',h1,h2⟩:=OwnQ.op hT
 have:cs=[.bool s,.slice x k m,.slice y k' m']:=by simpa using h1
 subst this
 exact ⟨b1,o1,s,x,k,m,y,k',m',he,Bo.of hc,by rw [gt_lt hi];exact h2.out⟩
theorem RdRow.op' {e:TypeId} {w:World} {a:Option Addr} {n c:Nat} {l:List Rat} (h:RdRow 3 (OwnPp e) w (.slice a n c) l) (i:Nat) (hi:i < l.length):
  ∃ b off s x k m y k' m',a=some ⟨b,off,none⟩∧Bo w b (off+i*3) [.bool s,.slice x k m,.slice y k' m']∧OwnP e 0 w (.agg #[.bool s,.slice x k m,.slice y k' m']) (gt l i):=by
 obtain ⟨b1,o1,cs,he,hl,hT,hc⟩:=h.at (by decide) i hi
 obtain ⟨s,x,k,m,y,k',m',h1,h2⟩:=OwnP.op hT
 have:cs=[.bool s,.slice x k m,.slice y k' m']:=by simpa using h1
 subst this
 exact ⟨b1,o1,s,x,k,m,y,k',m',he,Bo.of hc,by rw [gt_lt hi];exact h2.out⟩
end Go.Att

namespace Go.Proofs.YthpaifdfafjlcaaGreat
open Go.RowKit Go.Att

abbrev RdY (w:World) (v:Value) (l:TL) (c:Rat):Prop:=RdEy 4 w v l c
set_option linter.unusedSimpArgs false in
set_option maxHeartbeats 4000000 in
set_option maxRecDepth 100000 in
theorem r8coef_any {w:World} {v:Value} {l:TL} {c:Rat} {x:Int} (K:Nat) (hv:RdY w v l c) (hs:∀ t∈l,Sz K t.2) (hz:∀ j,Sz K (cf (l.take j) x)) (hl:l.length≤1000) (hK:K≤1500):
  Calls Tryz.prog 74 #[v,.int .i64 x] w (Gives w fun v' w'=>OwnP 4 0 w' v' (cf l x)):=by
 refine via fun R hR=>?_
 have HS:=Lib.hid hs
 obtain ⟨a,k,s,b,m,d,b',m',d',rfl,hlk,hkm,HRW,HRC⟩:=hv.op
 clear hv
 have HSZ:=Lib.hid hz
 clear hs hz
 obtain ⟨w1,hw1,b1,c1,c2,r1,r2,-⟩:=bx2 w [.slice a l.length k,.bool s,.slice b m d,.slice b' m' d'] [.bool false,.slice none 0 0,.slice none 0 0] 83 81
 have HW:=Lib.hid hw1
 have C1:=Lib.hid c1
 have R2:Hid (Rt w1 (w.heap.size+1) 3 81):=by
  show Rt _ _ _ _
  rw [hw1]
  have:=Rt.new (w.alloc (.cells #[.slice a l.length k,.bool s,.slice b m d,.slice b' m' d'] 83)) [.bool false,.slice none 0 0,.slice none 0 0] 81
  simpa using this
 clear c1 c2 r1 r2 hw1
 have HI:Hid (∀ w,Calls Tryz.prog 98 #[.int .i64 0] w (Gives w fun v' w'=>OwnP 4 w.heap.size w' v' 0)):=fun w=>by
  have h:=r5int_any (w:=w) (u:=0) (by omega)
  have e:((0:Int):Rat)=0:=by decide +kernel
  rwa [e] at h
 go_enter Tryz.func74,Tryz.ntmps74
 go_upto_region 1 with (fail)
 rw [← HW.out]
 clear HW
 go_wp2_with fail
 refine (HI.out _).mono ?_
 rintro e w2 ⟨_,rfl,b2,o2⟩
 obtain ⟨s8,a8,l8,c8,a7,l7,c7,rfl,O2⟩:=o2.op
 clear o2
 obtain ⟨w3,hw3,b3,hC3⟩:∃ W,W=w2.alloc (.cells #[.bool s8,.slice a8 l8 c8,.slice a7 l7 c7] 81)∧Ext w2 W∧Bp 4 81 W w2.heap.size 0:=⟨_,rfl,Ext.alloc _ _,Bp.new (O2.out.mono (Nat.zero_le _))⟩
 have HW:=Lib.hid hw3
 clear hw3 O2
 go_upto_region 2 with (fail)
 rw [← HW.out]
 clear HW
 have k0:=(C1.out.ext (Ext.trans b2 b3)).c1
 go_wp2_with fail
 clear k0
 go_loopw [12] (fun t wr=>∃ j:Nat,t=.int .i64 j∧j≤l.length∧Ext w2 wr∧Hid (Bp 4 81 wr w2.heap.size (cf (l.take j) x))) (fun t _=>l.length - (intOf t).toNat)
 case atStart=>exact ⟨0,rfl,Nat.zero_le _,b3,by rw [List.take_zero];exact hC3⟩
 case round=>
  clear hC3
  obtain ⟨j,rfl,hj,hx,hC⟩:=hrel
  by_cases hjl:j < l.length
  ·have hd:decide ((j:Int) < (l.length:Int))=true:=decide_eq_true (by omega)
   obtain ⟨bT,oT,rfl⟩:=HRW.out.some_atP hjl
   obtain ⟨sx,ax,lx,mx,ay,ly,my,hB4,hQ4⟩:=HRW.out.tp j hjl
   have b0r:=Ext.trans b1 (Ext.trans b2 hx)
   obtain ⟨u0,u1,u2,u3⟩:=hB4.ext b0r
   have hJ1:IntKind.i64.wrap (j:Int)=(j:Int):=by rw [IntKind.wrap_i64];omega
   have hJ2:(0:Int)≤(j:Int)∧(j:Int) < (l.length:Int):=⟨by omega,by omega⟩
   have HSN:=Lib.hid (cf_snoc hjl x)
   obtain ⟨y,hy⟩:∃ y,(gt l j).1=y:=⟨_,rfl⟩
   obtain ⟨q4,hq4⟩:∃ q4,(gt l j).2=q4:=⟨_,rfl⟩
   have HSQ:Hid (Sz K q4):=by rw [← hq4,gt_lt hjl];exact HS.out _ (List.getElem_mem hjl)
   rw [hy,hq4] at HSN
   rw [hy] at u0
   rw [hq4] at hQ4
   have HQ4:=Lib.hid (hQ4.ext b0r)
   clear hy hq4 hB4 hQ4
   obtain ⟨w4,hw4,b4,c4,-,-⟩:=bx1 wr [.int .i64 y,.bool sx,.slice ax lx mx,.slice ay ly my] 87
   have HW:=Lib.hid hw4
   have C4:=Lib.hid c4
   clear hw4 c4
   go_upto_region 5 with (fail)
   rw [← HW.out]
   clear HW u0 u1 u2 u3
   obtain ⟨u0,u1,u2,u3⟩:=C4.out.c4
   have hC4:=Lib.hid (hC.out.ext b4)
   by_cases hyx:y=x
   ·have he:(y != x)=false:=bneF hyx
    rw [if_pos hyx] at HSN
    obtain ⟨s0,e1,n1,g1,e2,n2,g2,T1,T2,T3⟩:=hC4.out.op
    obtain ⟨k0,k1,k2⟩:=T1.out.c3
    have HSG:Hid (Calls Tryz.prog 71 #[.agg #[.bool s0,.slice e1 n1 g1,.slice e2 n2 g2]] w4 (Gives w4 fun v' _=>v'=.int .i64 (cf (l.take j) x).num.sign)):=r5sign_any T3.out.rd
    clear hyx
    by_cases hz:cf (l.take j) x=0
    ·rw [hz,Rat.zero_add] at HSN
     have hs0:(cf (l.take j) x).num.sign=0:=by rw [hz];rfl
     rw [hs0] at HSG
     clear hz hs0
     go_wp2_with fail
     refine HSG.out.mono ?_
     rintro e w5 ⟨_,rfl,b5,rfl⟩
     clear k0 k1 k2
     obtain ⟨_,_,_,k0,k1,k2,i0,i1,i2⟩:=(T2.out.ext b5).rm.c3
     obtain ⟨u0,u1,u2,u3⟩:=(C4.out.ext b5).c4
     go_wp2_with fail
     go_roundw
     case rel=>exact ⟨j+1,by go_num,by omega,put3_below (Ext.trans hx (Ext.trans b4 b5)) (Nat.le_refl _) _ _ _,by rw [HSN.out];exact Bp.set (T2.out.ext b5) (by decide) ((HQ4.out.ext b4).ext b5)⟩
     case measure=>simp [intOf] <;> omega
    ·have hs0:((cf (l.take j) x).num.sign == 0)=false:=beqF fun h=>hz (num_sign_zero.1 h)
     have HJZ:=Lib.hid (HSZ.out j)
     generalize (cf (l.take j) x).num.sign=sg at*
     clear hz
     go_wp2_with fail
     refine HSG.out.mono ?_
     rintro e w5 ⟨_,rfl,b5,rfl⟩
     clear k0 k1 k2
     obtain ⟨k0,k1,k2⟩:=(T1.out.ext b5).c3
     obtain ⟨u0,u1,u2,u3⟩:=(C4.out.ext b5).c4
     go_wp2_with fail
     refine (r5add_any (T3.out.rd.ext b5) (HQ4.out.rd.ext (Ext.trans b4 b5)) (HJZ.out.bits.le (by omega)) (HSQ.out.bits.le (by omega))).mono ?_
     rintro e w6 ⟨_,rfl,b6,o6⟩
     rw [← HSN.out] at o6
     obtain ⟨s9,a9,l9,c9,a6,l6,c6,rfl,O6⟩:=o6.op
     clear o6 k0 k1 k2
     obtain ⟨_,_,_,k0,k1,k2,i0,i1,i2⟩:=(T2.out.ext (Ext.trans b5 b6)).rm.c3
     go_wp2_with fail
     go_roundw
     case rel=>exact ⟨j+1,by go_num,by omega,put3_below (Ext.trans hx (Ext.trans b4 (Ext.trans b5 b6))) (Nat.le_refl _) _ _ _,Bp.set (T2.out.ext (Ext.trans b5 b6)) (by decide) (O6.out.mono (Nat.zero_le _))⟩
     case measure=>simp [intOf] <;> omega
   ·have he:(y != x)=true:=bneT hyx
    rw [if_neg hyx,Rat.add_zero] at HSN
    clear hyx
    go_wp2_with fail
    go_roundw
    case rel=>exact ⟨j+1,by go_num,by omega,Ext.trans hx b4,by rw [HSN.out];exact hC4.out⟩
    case measure=>simp [intOf] <;> omega
  ·obtain rfl:j=l.length:=by omega
   have hd:decide ((l.length:Int) < (l.length:Int))=false:=decide_eq_false (by omega)
   obtain ⟨s0,e1,n1,g1,e2,n2,g2,T1,T2,T3⟩:=hC.out.op
   obtain ⟨k0,k1,k2⟩:=T1.out.c3
   have RR:=Lib.hid (R2.out.ext (Ext.trans b2 hx))
   obtain ⟨_,_,_,j0,j1,j2,i0,i1,i2⟩:=RR.out.rm.c3
   go_wp2_with fail
   refine bodyPost_ret (v:=.agg #[.bool s0,.slice e1 n1 g1,.slice e2 n2 g2]) (by simp [results,Tryz.results74,go_sem,j0,j1,j2]) rfl ?_
   exact hR.out _ _ (Gives.mk (put3_below (Ext.trans b1 (Ext.trans b2 hx)) (Nat.le_succ _) _ _ _) (by
    rw [List.take_length] at T3
    exact T3.out.putT RR.out (by decide) 0 [_,_,_]))
open Go.RowKit Go.Att

open Go.RowKit Go.Att

def Okx (K:Nat) (l:TL) (c:Rat):Prop:=l.length≤1000∧(∀ t∈l,Sz K t.2)∧(∀ x j,Sz K (cf (l.take j) x))∧Sz K c
theorem Okx.of {K L n:Nat} {l:TL} {c:Rat} (h:∀ t∈l,Sz L t.2) (hl:l.length≤n) (hn:n≤1000) (hc:Sz L c) (hK:n*(L+1)+1+L≤K):Okx K l c:=by
 have h1:l.length*(L+1)≤n*(L+1):=Nat.mul_le_mul_right _ hl
 exact ⟨by omega,fun t ht=>(h t ht).le (by omega),fun x j=>(cf_take_sz h j x).le (by omega),hc.le (by omega)⟩
theorem Okx.cf {K:Nat} {l:TL} {c:Rat} (h:Okx K l c) (x:Int):Sz K (cf l x):=by
 have:=h.2.2.1 x l.length
 rwa [List.take_length] at this
theorem Okx.le {K M:Nat} {l:TL} {c:Rat} (h:Okx K l c) (hM:K≤M):Okx M l c:=⟨h.1,fun t ht=>(h.2.1 t ht).le hM,fun x j=>(h.2.2.1 x j).le hM,h.2.2.2.le hM⟩
theorem tL_sz {w:World} {v:Value} {l:List (Int × NN)} {n:NN} (hv:RdNE w v l n):(∀ t∈tL l,Sz 8 t.2)∧Sz 8 (qN n):=by
 obtain ⟨s,y,z,rfl,hrow,⟨_,_,_,h3,h4⟩⟩:=hv
 refine ⟨fun p hp=>?_,qOf_sz h3.2 h4.2⟩
 obtain ⟨q,hq,rfl⟩:=List.mem_map.1 hp
 obtain ⟨i,hi,rfl⟩:=List.getElem_of_mem (List.mem_of_mem_take hq)
 obtain ⟨a,c,rfl,-,-⟩:=hrow.shape
 obtain ⟨_,_,cs,-,-,hT,-⟩:=hrow.at (by decide) i hi
 obtain ⟨_,_,-,⟨_,_,_,h1,h2⟩⟩:=hT
 exact qOf_sz h1.2 h2.2
open Go.RowKit Go.Att

open Go.RowKit Go.Att

def RdYp (w:World) (v:Value) (p:TL × Rat):Prop:=RdY w v p.1 p.2
theorem cells_Y {w:World} {cs:List Value} {p:TL × Rat} (h:RdYp w (.agg cs.toArray) p):∃ a k s b m d b' m' d',cs=[.slice a p.1.length k,.bool s,.slice b m d,.slice b' m' d']∧RdRow 4 (OwnTp 4) w (.slice a p.1.length k) p.1:=by
 obtain ⟨a,k,s,b,m,d,b',m',d',he,-,-,h1,-⟩:=RdEy.op h
 have:cs.toArray=#[.slice a p.1.length k,.bool s,.slice b m d,.slice b' m' d']:=by simpa using he
 exact ⟨a,k,s,b,m,d,b',m',d',by simpa using congrArg Array.toList this,h1.out⟩
theorem etInt8:ElemT Tryz.prog 117 3 (.int .i64 0) 1 8:=ElemT.mk' Tryz.underlying117 (by kernel_rfl) rfl (by decide)
def InV (x:Int) (l:TL):Prop:=∃ t∈l,t.1=x
def InVs (x:Int) (es:List (TL × Rat)):Prop:=∃ p∈es,InV x p.1
def NxI (y:Int) (us:List Int) (m:Nat) (d:Bool) (ns:List Int):Prop:=(us.Nodup→ns.Nodup)∧ns.length≤m+d.toNat∧∀ x,x∈ns↔(x∈us.take m∧x≠y)∨(d=true∧x=y)
theorem nodup_snoc {l:List Int} {x:Int} (h:l.Nodup) (hx:x ∉ l):(l ++ [x]).Nodup:=by
 rw [List.nodup_append]
 exact ⟨h,by simp,fun a ha b hb=>by rw [List.mem_singleton.1 hb];exact fun e=>hx (e ▸ ha)⟩
theorem NxI.start (y:Int) (us:List Int):NxI y us 0 false []:=⟨fun _=>List.nodup_nil,Nat.zero_le _,fun x=>by simp⟩
theorem NxI.ins {y:Int} {us ns:List Int} {m:Nat} (h:NxI y us m false ns):NxI y us m true (ns ++ [y]):=⟨fun hu=>nodup_snoc (h.1 hu) fun hy=>by
 rcases (h.2.2 y).1 hy with g | g
 ·exact g.2 rfl
 ·exact absurd g.1 (by decide),by have:=h.2.1;simp at this ⊢;omega,fun x=>by
 rw [List.mem_append,h.2.2 x,List.mem_singleton]
 simp⟩
theorem NxI.put {y u:Int} {us ns:List Int} {m:Nat} {d:Bool} (h:NxI y us m d ns) (hm:m < us.length) (hu:us[m]=u) (hne:u≠y):NxI y us (m+1) d (ns ++ [u]):=⟨fun hn=>nodup_snoc (h.1 hn) fun hy=>by
 rcases (h.2.2 u).1 hy with g | g
 ·rw [← List.take_append_drop m us,List.nodup_append] at hn
  refine hn.2.2 u g.1 u ?_ rfl
  rw [← hu]
  exact List.mem_drop_iff_getElem.2 ⟨0,by simpa using hm,by simp⟩
 ·exact hne g.2,by have:=h.2.1;simp at this ⊢;omega,fun x=>by
 rw [← List.take_append_getElem hm,List.mem_append,List.mem_append,h.2.2 x,List.mem_singleton,List.mem_singleton,hu]
 constructor
 ·rintro (h | h)
  ·rcases h with h | h
   ·exact .inl ⟨.inl h.1,h.2⟩
   ·exact .inr h
  ·exact .inl ⟨.inr h,h ▸ hne⟩
 ·rintro (⟨h | h,h2⟩ | h)
  ·exact .inl (.inl ⟨h,h2⟩)
  ·exact .inr h
  ·exact .inl (.inr h)⟩
theorem NxI.skip {y u:Int} {us ns:List Int} {m:Nat} {d:Bool} (h:NxI y us m d ns) (hm:m < us.length) (hu:us[m]=u) (hne:u=y):NxI y us (m+1) d ns:=⟨h.1,by have:=h.2.1;omega,fun x=>by
 rw [← List.take_append_getElem hm,List.mem_append,h.2.2 x,List.mem_singleton,hu]
 constructor
 ·rintro (h | h)
  ·exact .inl ⟨.inl h.1,h.2⟩
  ·exact .inr h
 ·rintro (⟨h | h,h2⟩ | h)
  ·exact .inl ⟨h,h2⟩
  ·exact absurd (h.trans hne) h2
  ·exact .inr h⟩
theorem NxI.fin {y:Int} {us ns:List Int} (h:NxI y us us.length true ns):ns.length≤us.length+1∧(us.Nodup→ns.Nodup)∧∀ x,x∈ns↔x∈us∨x=y:=⟨h.2.1,h.1,fun x=>by
 rw [h.2.2 x,List.take_length]
 constructor
 ·rintro (h | h)
  ·exact .inl h.1
  ·exact .inr h.2
 ·intro h
  by_cases hx:x=y
  ·exact .inr ⟨rfl,hx⟩
  ·exact .inl ⟨h.resolve_right hx,hx⟩⟩
set_option linter.unusedSimpArgs false in
set_option maxHeartbeats 4000000 in
set_option maxRecDepth 100000 in
theorem r8vars_nd {w:World} {v:Value} {es:List (TL × Rat)} (hv:RdRow 4 RdYp w v es) (he:es.length≤1000) (hs:∀ p∈es,p.1.length≤1000):
  Calls Tryz.prog 113 #[v] w (Gives w fun v' w'=>∃ vs:List Int,RdRow 1 IntT w' v' vs∧vs.length≤10000000∧vs.Nodup∧∀ x,x∈vs↔InVs x es):=by
 refine via fun R hR=>?_
 have HS:=Lib.hid hs
 obtain ⟨a,k,rfl,hlk,hkm⟩:=hv.shape
 have HV:=Lib.hid hv
 unfold maxLen at hkm
 clear hv hs
 go_enter Tryz.func113,Tryz.ntmps113
 go_wp2_with fail
 have b01:Ext w (w.alloc (.cells #[] 3)):=Ext.alloc _ _
 go_loopw [3,15] (fun o t wr=>∃ (j:Nat) (vs:List Int),t=.int .i64 j∧j≤es.length∧Ext w wr∧Hid (RdRow 1 IntT wr o vs)∧vs.length≤j*1000∧Hid (vs.Nodup∧∀ x,x∈vs↔InVs x (es.take j))) (fun _ t _=>es.length - (intOf t).toNat)
 case atStart=>exact ⟨0,[],rfl,Nat.zero_le _,b01,(OwnRow.nilLit (B:=w.heap.size) _ (Nat.le_refl _)).rd,Nat.zero_le _,List.nodup_nil,fun x=>⟨fun h=>(by cases h),fun h=>by
  obtain ⟨p,hp,-⟩:=h
  rw [List.take_zero] at hp
  cases hp⟩⟩
 case round=>
  obtain ⟨j,vs,rfl,hj,hx,hO,hvl,hM⟩:=hrel
  obtain ⟨ao,ko,rfl,hok,hokm⟩:=hO.out.shape
  by_cases hjl:j < es.length
  ·have hd:decide ((j:Int) < (es.length:Int))=true:=decide_eq_true (by omega)
   obtain ⟨bE,oE,cs,rfl,hcl,hT,hc⟩:=HV.out.at (by decide) j hjl
   obtain ⟨at',kt,se,be,me,de,be',me',de',rfl,hrow⟩:=cells_Y hT
   have HLT:=Lib.hid (HS.out _ (List.getElem_mem hjl))
   have HTK:Hid (∀ x,InVs x (es.take (j+1))↔InVs x (es.take j)∨InV x es[j].1):=fun x=>by
    rw [← List.take_append_getElem hjl]
    constructor
    ·rintro ⟨p,hp,h⟩
     rcases List.mem_append.1 hp with hp | hp
     ·exact .inl ⟨p,hp,h⟩
     ·rw [List.mem_singleton.1 hp] at h;exact .inr h
    ·rintro (⟨p,hp,h⟩ | h)
     ·exact ⟨p,List.mem_append_left _ hp,h⟩
     ·exact ⟨_,List.mem_append_right _ List.mem_cons_self,h⟩
   have HROW:=Lib.hid (hrow.ext OwnTp.ext hx)
   have e0:=Ext.cell hx (hc 0 (by decide))
   have e1:=Ext.cell hx (hc 1 (by decide))
   have e2:=Ext.cell hx (hc 2 (by decide))
   have e3:=Ext.cell hx (hc 3 (by decide))
   simp only [List.getElem?_cons_zero,List.getElem?_cons_succ,Nat.add_zero] at e0 e1 e2 e3
   have hJ1:IntKind.i64.wrap (j:Int)=(j:Int):=by rw [IntKind.wrap_i64];omega
   have hJ2:(0:Int)≤(j:Int)∧(j:Int) < (es.length:Int):=⟨by omega,by omega⟩
   generalize es[j]=pe at*
   obtain ⟨l,ce⟩:=pe
   change Hid (l.length≤1000) at HLT
   change Hid (∀ x,_↔_∨InV x l) at HTK
   change Hid (RdRow 4 (OwnTp 4) wr (.slice at' l.length kt) l) at HROW
   clear hrow hT hc hcl
   obtain ⟨w2,hw2,b2,c2,-,-⟩:=bx1 wr [.slice at' l.length kt,.bool se,.slice be me de,.slice be' me' de'] 83
   have HW:=Lib.hid hw2
   have C2:=Lib.hid c2
   clear hw2 c2
   go_upto_region 5 with (fail)
   rw [← HW.out]
   clear HW e0 e1 e2 e3
   have k0:=C2.out.c1
   go_wp2_with fail
   clear k0
   have b0r:=Ext.trans hx b2
   have HR2:=Lib.hid (HROW.out.ext OwnTp.ext b2)
   have HO2:=Lib.hid (hO.out.ext IntT.ext b2)
   clear hO HROW
   go_loopw [3,22] (fun o t wx=>∃ (i:Nat) (us:List Int),t=.int .i64 i∧i≤l.length∧Ext w2 wx∧Hid (RdRow 1 IntT wx o us)∧us.length≤j*1000+i∧Hid (us.Nodup∧∀ x,x∈us↔InVs x (es.take j)∨InV x (l.take i))) (fun _ t _=>l.length - (intOf t).toNat)
   case atStart=>exact ⟨0,vs,rfl,Nat.zero_le _,Ext.refl _,HO2.out,by omega,hM.out.1,fun x=>⟨fun h=>.inl ((hM.out.2 x).1 h),fun h=>by
    rcases h with h | ⟨t,ht,-⟩
    ·exact (hM.out.2 x).2 h
    ·rw [List.take_zero] at ht;cases ht⟩⟩
   case round=>
    obtain ⟨i,us,rfl,hi,hx2,hU,hul,hMU⟩:=hrel
    obtain ⟨au,ku,rfl,huk,hukm⟩:=hU.out.shape
    by_cases hil:i < l.length
    ·have hd2:decide ((i:Int) < (l.length:Int))=true:=decide_eq_true (by omega)
     have hlt:=HLT.out
     obtain ⟨bT,oT,rfl⟩:=HR2.out.some_atP hil
     obtain ⟨sx,ax,lx,mx,ay,ly,my,hB4,-⟩:=HR2.out.tp i hil
     obtain ⟨u0,u1,u2,u3⟩:=hB4.ext hx2
     have hI1:IntKind.i64.wrap (i:Int)=(i:Int):=by rw [IntKind.wrap_i64];omega
     have hI2:(0:Int)≤(i:Int)∧(i:Int) < (l.length:Int):=⟨by omega,by omega⟩
     have HTI:Hid (∀ x,InV x (l.take (i+1))↔InV x (l.take i)∨x=(gt l i).1):=fun x=>by
      rw [← List.take_append_getElem hil,← gt_lt hil]
      constructor
      ·rintro ⟨t,ht,h⟩
       rcases List.mem_append.1 ht with ht | ht
       ·exact .inl ⟨t,ht,h⟩
       ·rw [List.mem_singleton.1 ht] at h;exact .inr h.symm
      ·rintro (⟨t,ht,h⟩ | h)
       ·exact ⟨t,List.mem_append_left _ ht,h⟩
       ·exact ⟨_,List.mem_append_right _ List.mem_cons_self,h.symm⟩
     obtain ⟨y,hy⟩:∃ y,(gt l i).1=y:=⟨_,rfl⟩
     rw [hy] at HTI u0
     clear hB4 hy
     obtain ⟨w4,hw4,b4,c4,-,-⟩:=bx1 wr [.int .i64 y,.bool sx,.slice ax lx mx,.slice ay ly my] 87
     have HW:=Lib.hid hw4
     have C4:=Lib.hid c4
     clear hw4 c4
     go_upto_region 8 with (fail)
     rw [← HW.out]
     clear HW u0 u1 u2 u3
     have hU4:=Lib.hid (hU.out.ext IntT.ext b4)
     clear hU
     have b5:Ext w4 (w4.alloc (.cells #[] 3)):=Ext.alloc _ _
     go_wp2_with fail
     go_loopw [8,9,29] (fun nx dn t wy=>∃ (m:Nat) (ns:List Int) (d:Bool),t=.int .i64 m∧dn=.bool d∧m≤us.length∧Ext w4 wy∧Hid (OwnRow 1 IntT 3 w4.heap.size wy nx ns)∧Hid (NxI y us m d ns)) (fun _ _ t _=>us.length - (intOf t).toNat)
     case atStart=>exact ⟨0,[],false,rfl,rfl,Nat.zero_le _,b5,OwnRow.nilLit _ (Nat.le_refl _),NxI.start _ _⟩
     case round=>
      obtain ⟨m,ns,d,rfl,rfl,hm,hx5,hO,hN⟩:=hrel
      by_cases hml:m < us.length
      ·have hd3:decide ((m:Int) < (us.length:Int))=true:=decide_eq_true (by omega)
       obtain ⟨bU,oU,rfl⟩:=hU4.out.some_atI hml
       have hM1:IntKind.i64.wrap (m:Int)=(m:Int):=by rw [IntKind.wrap_i64];omega
       have hM2:(0:Int)≤(m:Int)∧(m:Int) < (us.length:Int):=⟨by omega,by omega⟩
       have v0:=Ext.cell hx5 (hU4.out.int m hml)
       obtain ⟨u,hu⟩:∃ u,us[m]=u:=⟨_,rfl⟩
       rw [hu] at v0
       have HU:=Lib.hid hu
       clear hu
       have hnl:=hN.out.2.1
       have hdl:d.toNat≤1:=by cases d <;> decide
       have k0:=(C4.out.ext hx5).c1
       by_cases huy:u=y
       ·have hb:(u != y)=false:=bneF huy
        have HN2:=Lib.hid (NxI.skip hN.out hml HU.out huy)
        cases d with
        | true=>
         clear huy
         go_wp2_with fail
         go_roundw
         case rel=>exact ⟨m+1,ns,true,by go_num,rfl,by omega,hx5,hO.out,HN2.out⟩
         case measure=>simp [intOf] <;> omega
        | false=>
         have hdy:decide (y≤u)=true:=decide_eq_true (by omega)
         clear huy
         go_wp2_with (at_builtin;refine append_rowL (y:=y) etInt8 (kdI _) (by rfl) _ _ (by rfl) w4.heap.size (by rfl) _ (by rfl) hO.out rfl (show IntT _ _ _ from rfl) (Below.size hx5) (by omega) (by unfold maxLen;omega) ?_;intro v9 w9 o9 b9 g9;have x9:=Below.trans hx5 b9;have k9:=(C4.out.ext (show Ext w4 w9 from x9)).c1)
         go_roundw
         case rel=>exact ⟨m+1,_,true,by go_num,rfl,by omega,x9,o9,HN2.out.ins⟩
         case measure=>simp [intOf] <;> omega
       ·have hb:(u != y)=true:=bneT huy
        have HN2:=Lib.hid (NxI.put hN.out hml HU.out huy)
        have HUY:=Lib.hid huy
        clear huy
        cases d with
        | true=>
         go_wp2_with (at_builtin;refine append_rowL (y:=u) etInt8 (kdI _) (by rfl) _ _ (by rfl) w4.heap.size (by rfl) _ (by rfl) hO.out rfl (show IntT _ _ _ from rfl) (Below.size hx5) (by omega) (by unfold maxLen;omega) ?_;intro v9 w9 o9 b9 g9;have x9:=Below.trans hx5 b9)
         go_roundw
         case rel=>exact ⟨m+1,_,true,by go_num,rfl,by omega,x9,o9,HN2.out⟩
         case measure=>simp [intOf] <;> omega
        | false=>
         by_cases hyu:y≤u
         ·have hdy:decide (y≤u)=true:=decide_eq_true hyu
          have HN3:=Lib.hid (NxI.put hN.out.ins hml HU.out HUY.out)
          clear hyu
          go_upto_region 16 with (at_builtin;refine append_rowL (y:=y) etInt8 (kdI _) (by rfl) _ _ (by rfl) w4.heap.size (by rfl) _ (by rfl) hO.out rfl (show IntT _ _ _ from rfl) (Below.size hx5) (by omega) (by unfold maxLen;omega) ?_;intro v9 w9 o9 b9 g9;have x9:=Below.trans hx5 b9;have k9:=(C4.out.ext (show Ext w4 w9 from x9)).c1)
          obtain ⟨ns2,hns2⟩:∃ ns2,ns ++ [y]=ns2:=⟨_,rfl⟩
          have hl2:ns2.length≤us.length+2:=by rw [← hns2,List.length_append];simp;omega
          rw [hns2] at o9 HN3
          clear hns2
          go_wp2_with (at_builtin;refine append_rowL (y:=u) etInt8 (kdI _) (by rfl) _ _ (by rfl) w4.heap.size (by rfl) _ (by rfl) o9 rfl (show IntT _ _ _ from rfl) (Below.size x9) (by omega) (by unfold maxLen;omega) ?_;intro v8 w8 o8 b8 g8;have x8:=Below.trans x9 b8)
          go_roundw
          case rel=>exact ⟨m+1,_,true,by go_num,rfl,by omega,x8,o8,HN3.out⟩
          case measure=>simp [intOf] <;> omega
         ·have hdy:decide (y≤u)=false:=decide_eq_false hyu
          clear hyu
          go_wp2_with (at_builtin;refine append_rowL (y:=u) etInt8 (kdI _) (by rfl) _ _ (by rfl) w4.heap.size (by rfl) _ (by rfl) hO.out rfl (show IntT _ _ _ from rfl) (Below.size hx5) (by omega) (by unfold maxLen;omega) ?_;intro v9 w9 o9 b9 g9;have x9:=Below.trans hx5 b9)
          go_roundw
          case rel=>exact ⟨m+1,_,false,by go_num,rfl,by omega,x9,o9,HN2.out⟩
          case measure=>simp [intOf] <;> omega
      ·obtain rfl:m=us.length:=by omega
       have hd3:decide ((us.length:Int) < (us.length:Int))=false:=decide_eq_false (by omega)
       have k0:=(C4.out.ext hx5).c1
       have hnl:=hN.out.2.1
       cases d with
       | true=>
        have HF:=Lib.hid (NxI.fin hN.out)
        obtain ⟨an,kn,rfl,-,-⟩:=hO.out.rd.shape
        go_wp2_with fail
        go_roundw
        case rel=>exact ⟨i+1,ns,by go_num,by omega,Ext.trans hx2 (Ext.trans b4 hx5),hO.out.rd,by have:=HF.out.1;omega,HF.out.2.1 hMU.out.1,fun x=>by
         rw [HF.out.2.2 x,hMU.out.2 x,HTI.out x,or_assoc]⟩
        case measure=>simp [intOf] <;> omega
       | false=>
        have HF:=Lib.hid (NxI.fin hN.out.ins)
        have hdl:(false:Bool).toNat=0:=rfl
        go_wp2_with (at_builtin;refine append_rowL (y:=y) etInt8 (kdI _) (by rfl) _ _ (by rfl) w4.heap.size (by rfl) _ (by rfl) hO.out rfl (show IntT _ _ _ from rfl) (Below.size hx5) (by omega) (by unfold maxLen;omega) ?_;intro v9 w9 o9 b9 g9;have x9:=Below.trans hx5 b9)
        go_roundw
        case rel=>exact ⟨i+1,_,by go_num,by omega,Ext.trans hx2 (Ext.trans b4 x9),o9.rd,by have:=HF.out.1;omega,HF.out.2.1 hMU.out.1,fun x=>by
         rw [HF.out.2.2 x,hMU.out.2 x,HTI.out x,or_assoc]⟩
        case measure=>simp [intOf] <;> omega
    ·obtain rfl:i=l.length:=by omega
     have hd2:decide ((l.length:Int) < (l.length:Int))=false:=decide_eq_false (by omega)
     rw [List.take_length] at hMU
     go_wp2_with fail
     go_roundw
     case rel=>exact ⟨j+1,us,by go_num,by omega,Ext.trans b0r hx2,hU.out,by have:=HLT.out;omega,hMU.out.1,fun x=>(hMU.out.2 x).trans (HTK.out x).symm⟩
     case measure=>simp [intOf] <;> omega
  ·obtain rfl:j=es.length:=by omega
   have hd:decide ((es.length:Int) < (es.length:Int))=false:=decide_eq_false (by omega)
   rw [List.take_length] at hM
   go_wp2_with fail
   exact hR.out _ _ (Gives.mk hx ⟨vs,hO.out,by omega,hM.out⟩)
open Go.RowKit Go.Att

open Go.RowKit Go.Att

def cmpD (a b c d:Rat):Int:=if (a - c).num.sign=0 then (b - d).num.sign else (a - c).num.sign

theorem dcmp_any {w:World} {va vb:Value} {a b c d:Rat} (hp:RdD w va a b) (hq:RdD w vb c d) (sa:Sz 10000000 a) (sb:Sz 10000000 b) (sc:Sz 10000000 c) (sd:Sz 10000000 d):
  Calls Tryz.prog 57 #[va,vb] w (Gives w fun v' _=>v'=.int .i64 (cmpD a b c d)):=by
 refine via fun R hR=>?_
 obtain ⟨x0,x1,x2,x3,x4,x5,rfl,h1,h2⟩:=hp
 obtain ⟨y0,y1,y2,y3,y4,y5,rfl,h3,h4⟩:=hq
 have HA:=Lib.hid h1
 have HB:=Lib.hid h2
 have HC:=Lib.hid h3
 have HD:=Lib.hid h4
 have SA:=Lib.hid sa
 have SB:=Lib.hid sb
 have SC:=Lib.hid sc
 have SD:=Lib.hid sd
 obtain ⟨w1,hw1,b1,c1,c2,-,-,-⟩:=bx2 w [x0,x1,x2,x3,x4,x5] [y0,y1,y2,y3,y4,y5] 122 122
 have C1:=Lib.hid c1
 have C2:=Lib.hid c2
 have HW:=Lib.hid hw1
 clear h1 h2 h3 h4 sa sb sc sd c1 c2 hw1
 unfold cmpD at hR
 go_enter Tryz.func57,Tryz.ntmps57
 go_upto_region 1 with (fail)
 rw [← HW.out]
 clear HW
 obtain ⟨k0,k1,k2,k3,k4,k5⟩:=C1.out.c6
 obtain ⟨l0,l1,l2,l3,l4,l5⟩:=C2.out.c6
 go_wp2_with fail
 clear k0 k1 k2 k3 k4 k5 l0 l1 l2 l3 l4 l5
 refine (rcmp_any (HA.out.ext b1) (HC.out.ext b1) SA.out SC.out).mono ?_
 rintro e w2 ⟨_,rfl,b2,rfl⟩
 generalize (a - c).num.sign=t at*
 by_cases h:t=0
 ·rw [if_pos h] at hR
  subst h
  obtain ⟨k0,k1,k2,k3,k4,k5⟩:=(C1.out.ext b2).c6
  obtain ⟨l0,l1,l2,l3,l4,l5⟩:=(C2.out.ext b2).c6
  go_wp2_with fail
  clear k0 k1 k2 k3 k4 k5 l0 l1 l2 l3 l4 l5
  refine (rcmp_any (HB.out.ext (Ext.trans b1 b2)) (HD.out.ext (Ext.trans b1 b2)) SB.out SD.out).mono ?_
  rintro e w3 ⟨_,rfl,b3,rfl⟩
  go_wp2_with fail
  exact hR.out _ _ (Gives.mk (Ext.trans b1 (Ext.trans b2 b3)) rfl)
 ·rw [if_neg h] at hR
  have ht:(t != 0)=true:=bneT h
  clear h
  go_wp2_with fail
  exact hR.out _ _ (Gives.mk (Ext.trans b1 b2) rfl)

theorem dof_any {w:World} {v:Value} {q:Rat} (hq:RdQ w v q):
  Calls Tryz.prog 55 #[v] w (Gives w fun v' w'=>RdD w' v' q 0):=by
 refine via fun R hR=>?_
 obtain ⟨n,d,rfl,hn,hd⟩:=hq
 have HN:=Lib.hid hn
 have HD:=Lib.hid hd
 obtain ⟨an,cn,rfl,-,-,-,-⟩:=hn.1.shape
 obtain ⟨ad,cd,rfl,-,-,-,-⟩:=hd.1.shape
 clear hn hd
 obtain ⟨w1,hw1,b1,c1,-,-,r2,-⟩:=bx2 w [.bool (decide (q.num < 0)),.slice an (limbs q.num.natAbs).length cn,.slice ad (dens q.den).length cd] [.bool false,.slice none 0 0,.slice none 0 0,.bool false,.slice none 0 0,.slice none 0 0] 49 122
 obtain ⟨k0,k1,k2⟩:=c1.c3
 obtain ⟨_,_,_,_,_,_,j0,j1,j2,j3,j4,j5,g0,g1,g2,g3,g4,g5⟩:=r2.c6
 have HW:=Lib.hid hw1
 clear hw1 c1 r2
 go_enter Tryz.func55,Tryz.ntmps55
 go_upto_region 1 with (fail)
 rw [← HW.out]
 clear HW
 go_wp2_with fail
 refine bodyPost_ret (v:=.agg #[.bool (decide (q.num < 0)),.slice an (limbs q.num.natAbs).length cn,.slice ad (dens q.den).length cd,.bool false,.slice none 0 0,.slice none 0 0]) (by simp [results,Tryz.results55,go_sem,j0,j1,j2,j3,j4,j5]) rfl ?_
 have xx:=put6_below b1 (show w.heap.size≤w.heap.size+1 by omega) (.bool (decide (q.num < 0))) (.slice an (limbs q.num.natAbs).length cn) (.slice ad (dens q.den).length cd) (.bool false) (.slice none 0 0) (.slice none 0 0)
 exact hR.out _ _ (Gives.mk xx ⟨_,_,_,_,_,_,rfl,⟨_,_,rfl,HN.out.ext xx,HD.out.ext xx⟩,rdq_zero _⟩)

theorem dat_any {w:World} {va vb:Value} {a b q:Rat} (hp:RdD w va a b) (hq:RdQ w vb q) (sa:Sz 1000000 a) (sb:Sz 1000000 b) (sq:Sz 1000000 q):
  Calls Tryz.prog 59 #[va,vb] w (Gives w fun v' w'=>OwnQ 115 w.heap.size w' v' (a+b*q)):=by
 refine via fun R hR=>?_
 generalize hr:a+b*q=r at hR
 have HRR:=Lib.hid hr
 clear hr
 obtain ⟨x0,x1,x2,x3,x4,x5,rfl,h1,h2⟩:=hp
 have HA:=Lib.hid h1
 have HB:=Lib.hid h2
 have HQ:=Lib.hid hq
 have SA:=Lib.hid sa
 have SB:=Lib.hid sb
 have SQ:=Lib.hid sq
 obtain ⟨y0,y1,rfl,-,-⟩:=hq
 obtain ⟨w1,hw1,b1,c1,c2,-,-,-,r3,-⟩:=bx3 w [x0,x1,x2,x3,x4,x5] [.bool (decide (q.num < 0)),y0,y1] [.bool false,.slice none 0 0,.slice none 0 0] 122 49 49
 have C1:=Lib.hid c1
 have C2:=Lib.hid c2
 have C3:Hid (Room3 w1 (w.heap.size+1+1)):=r3.room3
 have HW:=Lib.hid hw1
 clear h1 h2 sa sb sq c1 c2 r3 hw1
 go_enter Tryz.func59,Tryz.ntmps59
 go_upto_region 1 with (fail)
 rw [← HW.out]
 clear HW
 have b2:=drew_ext w1
 have XE:=b2
 go_region_held3 (fun w'=>(w'.cell? ⟨w.heap.size,0,none⟩=some (x0)∧w'.cell? ⟨w.heap.size,1,none⟩=some (x1)∧w'.cell? ⟨w.heap.size,2,none⟩=some (x2)∧w'.cell? ⟨w.heap.size,3,none⟩=some (x3)∧w'.cell? ⟨w.heap.size,4,none⟩=some (x4)∧w'.cell? ⟨w.heap.size,5,none⟩=some (x5))∧(w'.cell? ⟨w.heap.size+1,0,none⟩=some (.bool (decide (q.num < 0)))∧w'.cell? ⟨w.heap.size+1,1,none⟩=some (y0)∧w'.cell? ⟨w.heap.size+1,2,none⟩=some (y1))) (first | exact ⟨(C1.out.ext XE).c6,(C2.out.ext XE).c3⟩ | exact ⟨((C1.out.ext XE).put3 (by omega) _ _ _).c6,((C2.out.ext XE).put3 (by omega) _ _ _).c3⟩)
  (first
   | (go_at_call 65;refine (HRR.out ▸ radd_any (HA.out.ext (Ext.trans b1 (Ext.trans b2 b3))) O3.out.rd (SA.out.le (by decide)) ((SB.out.mul SQ.out).le (by decide))).mono ?_;rintro e w4 ⟨_,rfl,b4,n4,d4,rfl,on4,od4⟩;have ON4:=Lib.hid on4;have OD4:=Lib.hid od4;clear on4 od4;obtain ⟨an4,cn4,rfl,-,-,-,-⟩:=ON4.out.rd.1.shape;obtain ⟨ad4,cd4,rfl,-,-,-,-⟩:=OD4.out.rd.1.shape;(first | have XE:=Ext.trans XE b4 | have XE:=Ext.trans (Ext.trans XE (Ext.alloc _ _)) b4);obtain ⟨_,_,_,j0,j1,j2,g0,g1,g2⟩:=(C3.out.ext XE).cells)
   | (go_at_call 47;refine (rmul_any (HB.out.ext (Ext.trans b1 b2)) (HQ.out.ext (Ext.trans b1 b2)) (SB.out.le (by decide)) (SQ.out.le (by decide))).mono ?_;rintro e w3 ⟨v3,rfl,b3,o3⟩;have O3:=Lib.hid o3;clear o3;(first | have XE:=Ext.trans XE b3 | have XE:=Ext.trans (Ext.trans XE (Ext.alloc _ _)) b3)))
 go_wp2_with fail
 refine bodyPost_ret (v:=.agg #[.bool (decide (r.num < 0)),.slice an4 (limbs r.num.natAbs).length cn4,.slice ad4 (dens r.den).length cd4]) (by simp [results,Tryz.results59,go_sem,j0,j1,j2]) rfl ?_
 have hz:=Lib.hid (Below.size (Ext.trans b2 b3))
 have hs:Hid (w.heap.size+1+1 < w1.heap.size):=by obtain ⟨_,_,_,_,h⟩:=C3.out;exact (Array.getElem?_eq_some_iff.1 h).1
 exact hR.out _ _ (Gives.mk (put3_below (Ext.trans b1 (Ext.trans b2 (Ext.trans b3 b4))) (by omega) _ _ _) ⟨_,_,rfl,(ON4.out.put (by have:=hz.out;have:=hs.out;omega) _ _ _).mono (by have:=hz.out;have:=hs.out;omega),(OD4.out.put (by have:=hz.out;have:=hs.out;omega) _ _ _).mono (by have:=hz.out;have:=hs.out;omega)⟩)
open Go.RowKit Go.Att

open Go.RowKit Go.Att

set_option linter.unusedSimpArgs false in
theorem dadd_any {w:World} {va vb:Value} {a b c d:Rat} (hp:RdD w va a b) (hq:RdD w vb c d) (sa:Sz 10000000 a) (sb:Sz 10000000 b) (sc:Sz 10000000 c) (sd:Sz 10000000 d):
  Calls Tryz.prog 64 #[va,vb] w (Gives w fun v' w'=>OwnD 115 w.heap.size w' v' (a+c) (b+d)):=by
 refine via fun R hR=>?_
 generalize hr:a+c=r at hR
 generalize hs:b+d=s at hR
 have HRR:=Lib.hid hr
 have HSS:=Lib.hid hs
 obtain ⟨x0,x1,x2,x3,x4,x5,rfl,h1,h2⟩:=hp
 obtain ⟨y0,y1,y2,y3,y4,y5,rfl,h3,h4⟩:=hq
 have HA:=Lib.hid h1
 have HB:=Lib.hid h2
 have HC:=Lib.hid h3
 have HD:=Lib.hid h4
 have SA:=Lib.hid sa
 have SB:=Lib.hid sb
 have SC:=Lib.hid sc
 have SD:=Lib.hid sd
 obtain ⟨w1,hw1,b1,c1,c2,-,-,-,r3,-⟩:=bx3 w [x0,x1,x2,x3,x4,x5] [y0,y1,y2,y3,y4,y5] [.bool false,.slice none 0 0,.slice none 0 0,.bool false,.slice none 0 0,.slice none 0 0] 122 122 122
 have C1:=Lib.hid c1
 have C2:=Lib.hid c2
 have RR:Hid (Rm w1 (w.heap.size+1+1) 6):=r3
 have HW:=Lib.hid hw1
 clear h1 h2 h3 h4 sa sb sc sd c1 c2 r3 hw1 hr hs
 go_enter Tryz.func64,Tryz.ntmps64
 go_upto_region 1 with (fail)
 rw [← HW.out]
 clear HW
 have b2:=drew_ext w1
 have XE:=b2
 refine wp_region_noPanic ?_
 refine wp_region_held_drew (S:=fun w'=>(w'.cell? ⟨w.heap.size,0,none⟩=some (x0)∧w'.cell? ⟨w.heap.size,1,none⟩=some (x1)∧w'.cell? ⟨w.heap.size,2,none⟩=some (x2)∧w'.cell? ⟨w.heap.size,3,none⟩=some (x3)∧w'.cell? ⟨w.heap.size,4,none⟩=some (x4)∧w'.cell? ⟨w.heap.size,5,none⟩=some (x5))∧(w'.cell? ⟨w.heap.size+1,0,none⟩=some (y0)∧w'.cell? ⟨w.heap.size+1,1,none⟩=some (y1)∧w'.cell? ⟨w.heap.size+1,2,none⟩=some (y2)∧w'.cell? ⟨w.heap.size+1,3,none⟩=some (y3)∧w'.cell? ⟨w.heap.size+1,4,none⟩=some (y4)∧w'.cell? ⟨w.heap.size+1,5,none⟩=some (y5))) (by kernel_rfl) (⟨(C1.out.ext XE).c6,(C2.out.ext XE).c6⟩) (fun hHeld=>?_)
 refine tkH 0 hHeld ?_
 simp only [jP,jA,jB,jC,jD,jE,jF]
 refine tkH 1 hHeld ?_
 simp only [jP,jA,jB,jC,jD,jE,jF]
 refine tkH 2 hHeld ?_
 simp only [jP,jA,jB,jC,jD,jE,jF]
 refine tkH 3 hHeld ?_
 simp only [jP,jA,jB,jC,jD,jE,jF]
 refine tkH 5 hHeld ?_
 simp only [jP,jA,jB,jC,jD,jE,jF]
 refine tkH 6 hHeld ?_
 simp only [jP,jA,jB,jC,jD,jE,jF]
 refine tkH 7 hHeld ?_
 simp only [jP,jA,jB,jC,jD,jE,jF]
 refine tkH 8 hHeld ?_
 simp only [jP,jA,jB,jC,jD,jE,jF]
 refine rdH 4 (by kernel_rfl) rfl (fun K hK=>?_)
 go_simp
 go_at_call 65;refine (HRR.out ▸ radd_any (HA.out.ext (Ext.trans b1 b2)) (HC.out.ext (Ext.trans b1 b2)) SA.out SC.out).mono ?_;rintro e w3 ⟨_,rfl,b3,n3,d3,rfl,on3,od3⟩;have ON3:=Lib.hid on3;have OD3:=Lib.hid od3;clear on3 od3;obtain ⟨an3,cn3,rfl,-,-,-,-⟩:=ON3.out.rd.1.shape;obtain ⟨ad3,cd3,rfl,-,-,-,-⟩:=OD3.out.rd.1.shape;(first | have XE:=Ext.trans XE b3 | have XE:=Ext.trans (Ext.trans XE (Ext.alloc _ _)) b3)
 go_wp2_with fail
 refine hK.out _ _ (⟨(C1.out.ext XE).c6,(C2.out.ext XE).c6⟩) (fun hHeld=>?_)
 clear hK K
 try simp only [jP,jA,jB,jC,jD,jE,jF]
 refine rdH 9 (by kernel_rfl) rfl (fun K hK=>?_)
 go_simp
 go_at_call 65;refine (HSS.out ▸ radd_any (HB.out.ext (Ext.trans b1 (Ext.trans b2 b3))) (HD.out.ext (Ext.trans b1 (Ext.trans b2 b3))) SB.out SD.out).mono ?_;rintro e w4 ⟨_,rfl,b4,n4,d4,rfl,on4,od4⟩;have ON4:=Lib.hid on4;have OD4:=Lib.hid od4;clear on4 od4;obtain ⟨an4,cn4,rfl,-,-,-,-⟩:=ON4.out.rd.1.shape;obtain ⟨ad4,cd4,rfl,-,-,-,-⟩:=OD4.out.rd.1.shape;(first | have XE:=Ext.trans XE b4 | have XE:=Ext.trans (Ext.trans XE (Ext.alloc _ _)) b4);obtain ⟨_,_,_,_,_,_,j0,j1,j2,j3,j4,j5,g0,g1,g2,g3,g4,g5⟩:=(RR.out.ext XE).c6
 go_wp2_with fail
 refine hK.out _ _ (⟨(C1.out.ext XE).c6,(C2.out.ext XE).c6⟩) (fun hHeld=>?_)
 clear hK K
 try simp only [jP,jA,jB,jC,jD,jE,jF]
 refine tkH 10 hHeld ?_
 simp only [jP,jA,jB,jC,jD,jE,jF]
 refine rdH 11 (by kernel_rfl) rfl (fun K hK=>?_)
 go_simp
 refine hK.out _ _ (⟨((C1.out.ext XE).put6 (by omega) _ _ _ _ _ _).c6,((C2.out.ext XE).put6 (by omega) _ _ _ _ _ _).c6⟩) (fun hHeld=>?_)
 clear hK K
 try simp only [jP,jA,jB,jC,jD,jE,jF]
 refine wpAnyH_done (by kernel_rfl) ?_ _
 refine NoPanic.normal ?_
 go_wp2_with fail
 refine bodyPost_ret (v:=.agg #[.bool (decide (r.num < 0)),.slice an3 (limbs r.num.natAbs).length cn3,.slice ad3 (dens r.den).length cd3,.bool (decide (s.num < 0)),.slice an4 (limbs s.num.natAbs).length cn4,.slice ad4 (dens s.den).length cd4]) (by simp [results,Tryz.results64,go_sem,j0,j1,j2,j3,j4,j5]) rfl ?_
 have hz:=Lib.hid (Below.size (Ext.trans b2 b3))
 have hs:=Lib.hid RR.out.lt
 have hdr:w1.drew.heap.size=w1.heap.size:=rfl
 exact hR.out _ _ (Gives.mk (put6_below (Ext.trans b1 (Ext.trans b2 (Ext.trans b3 b4))) (by have:=hz.out;omega) _ _ _ _ _ _) ⟨_,_,_,_,rfl,(ON3.out.put6 b4 (by have:=hz.out;have:=hs.out;omega) _ _ _ _ _ _).mono (by have:=hz.out;have:=hs.out;omega),(OD3.out.put6 b4 (by have:=hz.out;have:=hs.out;omega) _ _ _ _ _ _).mono (by have:=hz.out;have:=hs.out;omega),(ON4.out.put6 (Ext.refl _) (by have:=hz.out;have:=hs.out;omega) _ _ _ _ _ _).mono (by have:=hz.out;have:=hs.out;omega),(OD4.out.put6 (Ext.refl _) (by have:=hz.out;have:=hs.out;omega) _ _ _ _ _ _).mono (by have:=hz.out;have:=hs.out;omega)⟩)

set_option linter.unusedSimpArgs false in
theorem dscale_any {w:World} {va vb:Value} {a c d:Rat} (hp:RdQ w va a) (hq:RdD w vb c d) (sa:Sz 10000000 a) (sc:Sz 10000000 c) (sd:Sz 10000000 d):
  Calls Tryz.prog 62 #[va,vb] w (Gives w fun v' w'=>OwnD 115 w.heap.size w' v' (a*c) (a*d)):=by
 refine via fun R hR=>?_
 generalize hr:a*c=r at hR
 generalize hs:a*d=s at hR
 have HRR:=Lib.hid hr
 have HSS:=Lib.hid hs
 have HA:=Lib.hid hp
 obtain ⟨x1,x2,rfl,-,-⟩:=hp
 obtain ⟨y0,y1,y2,y3,y4,y5,rfl,h3,h4⟩:=hq
 have HC:=Lib.hid h3
 have HD:=Lib.hid h4
 have SA:=Lib.hid sa
 have SC:=Lib.hid sc
 have SD:=Lib.hid sd
 obtain ⟨w1,hw1,b1,c1,c2,-,-,-,r3,-⟩:=bx3 w [.bool (decide (a.num < 0)),x1,x2] [y0,y1,y2,y3,y4,y5] [.bool false,.slice none 0 0,.slice none 0 0,.bool false,.slice none 0 0,.slice none 0 0] 49 122 122
 have C1:=Lib.hid c1
 have C2:=Lib.hid c2
 have RR:Hid (Rm w1 (w.heap.size+1+1) 6):=r3
 have HW:=Lib.hid hw1
 clear h3 h4 sa sc sd c1 c2 r3 hw1 hr hs
 go_enter Tryz.func62,Tryz.ntmps62
 go_upto_region 1 with (fail)
 rw [← HW.out]
 clear HW
 have b2:=drew_ext w1
 have XE:=b2
 refine wp_region_noPanic ?_
 refine wp_region_held_drew (S:=fun w'=>(w'.cell? ⟨w.heap.size,0,none⟩=some (.bool (decide (a.num < 0)))∧w'.cell? ⟨w.heap.size,1,none⟩=some (x1)∧w'.cell? ⟨w.heap.size,2,none⟩=some (x2))∧(w'.cell? ⟨w.heap.size+1,0,none⟩=some (y0)∧w'.cell? ⟨w.heap.size+1,1,none⟩=some (y1)∧w'.cell? ⟨w.heap.size+1,2,none⟩=some (y2)∧w'.cell? ⟨w.heap.size+1,3,none⟩=some (y3)∧w'.cell? ⟨w.heap.size+1,4,none⟩=some (y4)∧w'.cell? ⟨w.heap.size+1,5,none⟩=some (y5))) (by kernel_rfl) (⟨(C1.out.ext XE).c3,(C2.out.ext XE).c6⟩) (fun hHeld=>?_)
 refine tkH 0 hHeld ?_
 simp only [jP,jA,jB,jC,jD,jE,jF]
 refine tkH 1 hHeld ?_
 simp only [jP,jA,jB,jC,jD,jE,jF]
 refine tkH 2 hHeld ?_
 simp only [jP,jA,jB,jC,jD,jE,jF]
 refine tkH 4 hHeld ?_
 simp only [jP,jA,jB,jC,jD,jE,jF]
 refine tkH 5 hHeld ?_
 simp only [jP,jA,jB,jC,jD,jE,jF]
 refine tkH 6 hHeld ?_
 simp only [jP,jA,jB,jC,jD,jE,jF]
 refine rdH 3 (by kernel_rfl) rfl (fun K hK=>?_)
 go_simp
 go_at_call 47;refine (HRR.out ▸ rmul_any (HA.out.ext (Ext.trans b1 b2)) (HC.out.ext (Ext.trans b1 b2)) SA.out SC.out).mono ?_;rintro e w3 ⟨_,rfl,b3,n3,d3,rfl,on3,od3⟩;have ON3:=Lib.hid on3;have OD3:=Lib.hid od3;clear on3 od3;obtain ⟨an3,cn3,rfl,-,-,-,-⟩:=ON3.out.rd.1.shape;obtain ⟨ad3,cd3,rfl,-,-,-,-⟩:=OD3.out.rd.1.shape;(first | have XE:=Ext.trans XE b3 | have XE:=Ext.trans (Ext.trans XE (Ext.alloc _ _)) b3)
 go_wp2_with fail
 refine hK.out _ _ (⟨(C1.out.ext XE).c3,(C2.out.ext XE).c6⟩) (fun hHeld=>?_)
 clear hK K
 try simp only [jP,jA,jB,jC,jD,jE,jF]
 refine rdH 7 (by kernel_rfl) rfl (fun K hK=>?_)
 go_simp
 go_at_call 47;refine (HSS.out ▸ rmul_any (HA.out.ext (Ext.trans b1 (Ext.trans b2 b3))) (HD.out.ext (Ext.trans b1 (Ext.trans b2 b3))) SA.out SD.out).mono ?_;rintro e w4 ⟨_,rfl,b4,n4,d4,rfl,on4,od4⟩;have ON4:=Lib.hid on4;have OD4:=Lib.hid od4;clear on4 od4;obtain ⟨an4,cn4,rfl,-,-,-,-⟩:=ON4.out.rd.1.shape;obtain ⟨ad4,cd4,rfl,-,-,-,-⟩:=OD4.out.rd.1.shape;(first | have XE:=Ext.trans XE b4 | have XE:=Ext.trans (Ext.trans XE (Ext.alloc _ _)) b4);obtain ⟨_,_,_,_,_,_,j0,j1,j2,j3,j4,j5,g0,g1,g2,g3,g4,g5⟩:=(RR.out.ext XE).c6
 go_wp2_with fail
 refine hK.out _ _ (⟨(C1.out.ext XE).c3,(C2.out.ext XE).c6⟩) (fun hHeld=>?_)
 clear hK K
 try simp only [jP,jA,jB,jC,jD,jE,jF]
 refine tkH 8 hHeld ?_
 simp only [jP,jA,jB,jC,jD,jE,jF]
 refine rdH 9 (by kernel_rfl) rfl (fun K hK=>?_)
 go_simp
 refine hK.out _ _ (⟨((C1.out.ext XE).put6 (by omega) _ _ _ _ _ _).c3,((C2.out.ext XE).put6 (by omega) _ _ _ _ _ _).c6⟩) (fun hHeld=>?_)
 clear hK K
 try simp only [jP,jA,jB,jC,jD,jE,jF]
 refine wpAnyH_done (by kernel_rfl) ?_ _
 refine NoPanic.normal ?_
 go_wp2_with fail
 refine bodyPost_ret (v:=.agg #[.bool (decide (r.num < 0)),.slice an3 (limbs r.num.natAbs).length cn3,.slice ad3 (dens r.den).length cd3,.bool (decide (s.num < 0)),.slice an4 (limbs s.num.natAbs).length cn4,.slice ad4 (dens s.den).length cd4]) (by simp [results,Tryz.results62,go_sem,j0,j1,j2,j3,j4,j5]) rfl ?_
 have hz:=Lib.hid (Below.size (Ext.trans b2 b3))
 have hs:=Lib.hid RR.out.lt
 have hdr:w1.drew.heap.size=w1.heap.size:=rfl
 exact hR.out _ _ (Gives.mk (put6_below (Ext.trans b1 (Ext.trans b2 (Ext.trans b3 b4))) (by have:=hz.out;omega) _ _ _ _ _ _) ⟨_,_,_,_,rfl,(ON3.out.put6 b4 (by have:=hz.out;have:=hs.out;omega) _ _ _ _ _ _).mono (by have:=hz.out;have:=hs.out;omega),(OD3.out.put6 b4 (by have:=hz.out;have:=hs.out;omega) _ _ _ _ _ _).mono (by have:=hz.out;have:=hs.out;omega),(ON4.out.put6 (Ext.refl _) (by have:=hz.out;have:=hs.out;omega) _ _ _ _ _ _).mono (by have:=hz.out;have:=hs.out;omega),(OD4.out.put6 (Ext.refl _) (by have:=hz.out;have:=hs.out;omega) _ _ _ _ _ _).mono (by have:=hz.out;have:=hs.out;omega)⟩)

theorem rdq_neg {w:World} {x n d:Value} {q:Rat} (h:RdQ w (.agg #[x,n,d]) q):RdQ w (.agg #[.bool (decide ((-q).num < 0)),n,d]) (-q):=by
 obtain ⟨n',d',he,hn,hd⟩:=h
 obtain ⟨rfl,rfl,rfl⟩:x=.bool (decide (q.num < 0))∧n=n'∧d=d':=by simpa using he
 exact ⟨n,d,rfl,by rw [Rat.neg_num,Int.natAbs_neg];exact hn,hd⟩
set_option linter.unusedSimpArgs false in
theorem dneg_any {w:World} {va:Value} {a b:Rat} (hp:RdD w va a b):
  Calls Tryz.prog 88 #[va] w (Gives w fun v' w'=>RdD w' v' (-a) (-b)):=by
 refine via fun R hR=>?_
 obtain ⟨x0,x1,x2,x3,x4,x5,rfl,h1,h2⟩:=hp
 obtain ⟨aa,ac,ab,ad,rfl,rfl,rfl⟩:=shape_Q h1
 obtain ⟨ba,bc,bb,bd,rfl,rfl,rfl⟩:=shape_Q h2
 have HA:=Lib.hid h1
 have HB:=Lib.hid h2
 obtain ⟨w1,hw1,b1,c1,-,-,r3,-⟩:=bx2 w [.bool (decide (a.num < 0)),.slice aa (limbs a.num.natAbs).length ac,.slice ab (dens a.den).length ad,.bool (decide (b.num < 0)),.slice ba (limbs b.num.natAbs).length bc,.slice bb (dens b.den).length bd] [.bool false,.slice none 0 0,.slice none 0 0,.bool false,.slice none 0 0,.slice none 0 0] 122 122
 have C1:=Lib.hid c1
 have RR:Hid (Rm w1 (w.heap.size+1) 6):=r3
 have HW:=Lib.hid hw1
 have hna:Hid (RdQ w (.agg #[.bool (decide ((-a).num < 0)),.slice aa (limbs a.num.natAbs).length ac,.slice ab (dens a.den).length ad]) (-a)):=rdq_neg h1
 have hnb:Hid (RdQ w (.agg #[.bool (decide ((-b).num < 0)),.slice ba (limbs b.num.natAbs).length bc,.slice bb (dens b.den).length bd]) (-b)):=rdq_neg h2
 have HNA:=Lib.hid (fun w=>@rneg_val w (.bool (decide (a.num < 0))) (.slice aa (limbs a.num.natAbs).length ac) (.slice ab (dens a.den).length ad) a)
 have HNB:=Lib.hid (fun w=>@rneg_val w (.bool (decide (b.num < 0))) (.slice ba (limbs b.num.natAbs).length bc) (.slice bb (dens b.den).length bd) b)
 generalize -a=r at*
 generalize -b=s at*
 clear h1 h2 c1 r3 hw1
 go_enter Tryz.func88,Tryz.ntmps88
 go_upto_region 1 with (fail)
 rw [← HW.out]
 clear HW
 have b2:=drew_ext w1
 have XE:=b2
 refine wp_region_noPanic ?_
 refine wp_region_held_drew (S:=fun w'=>w'.cell? ⟨w.heap.size,0,none⟩=some (.bool (decide (a.num < 0)))∧w'.cell? ⟨w.heap.size,1,none⟩=some (.slice aa (limbs a.num.natAbs).length ac)∧w'.cell? ⟨w.heap.size,2,none⟩=some (.slice ab (dens a.den).length ad)∧w'.cell? ⟨w.heap.size,3,none⟩=some (.bool (decide (b.num < 0)))∧w'.cell? ⟨w.heap.size,4,none⟩=some (.slice ba (limbs b.num.natAbs).length bc)∧w'.cell? ⟨w.heap.size,5,none⟩=some (.slice bb (dens b.den).length bd)) (by kernel_rfl) ((C1.out.ext XE).c6) (fun hHeld=>?_)
 refine tkH 0 hHeld ?_
 simp only [jP,jA,jB,jC,jD,jE,jF]
 refine tkH 1 hHeld ?_
 simp only [jP,jA,jB,jC,jD,jE,jF]
 refine tkH 3 hHeld ?_
 simp only [jP,jA,jB,jC,jD,jE,jF]
 refine tkH 4 hHeld ?_
 simp only [jP,jA,jB,jC,jD,jE,jF]
 refine rdH 2 (by kernel_rfl) rfl (fun K hK=>?_)
 go_simp
 go_at_call 56;refine (HNA.out _ (HA.out.ext (Ext.trans b1 b2))).mono ?_;rintro e w3 ⟨_,rfl,b3,rfl⟩;(first | have XE:=Ext.trans XE b3 | have XE:=Ext.trans (Ext.trans XE (Ext.alloc _ _)) b3)
 go_wp2_with fail
 refine hK.out _ _ ((C1.out.ext XE).c6) (fun hHeld=>?_)
 clear hK K
 try simp only [jP,jA,jB,jC,jD,jE,jF]
 refine rdH 5 (by kernel_rfl) rfl (fun K hK=>?_)
 go_simp
 go_at_call 56;refine (HNB.out _ (HB.out.ext (Ext.trans b1 (Ext.trans b2 b3)))).mono ?_;rintro e w4 ⟨_,rfl,b4,rfl⟩;(first | have XE:=Ext.trans XE b4 | have XE:=Ext.trans (Ext.trans XE (Ext.alloc _ _)) b4);obtain ⟨_,_,_,_,_,_,j0,j1,j2,j3,j4,j5,g0,g1,g2,g3,g4,g5⟩:=(RR.out.ext XE).c6
 go_wp2_with fail
 refine hK.out _ _ ((C1.out.ext XE).c6) (fun hHeld=>?_)
 clear hK K
 try simp only [jP,jA,jB,jC,jD,jE,jF]
 refine tkH 6 hHeld ?_
 simp only [jP,jA,jB,jC,jD,jE,jF]
 refine rdH 7 (by kernel_rfl) rfl (fun K hK=>?_)
 go_simp
 refine hK.out _ _ (((C1.out.ext XE).put6 (by omega) _ _ _ _ _ _).c6) (fun hHeld=>?_)
 clear hK K
 try simp only [jP,jA,jB,jC,jD,jE,jF]
 refine wpAnyH_done (by kernel_rfl) ?_ _
 refine NoPanic.normal ?_
 go_wp2_with fail
 refine bodyPost_ret (v:=.agg #[.bool (decide (r.num < 0)),.slice aa (limbs a.num.natAbs).length ac,.slice ab (dens a.den).length ad,.bool (decide (s.num < 0)),.slice ba (limbs b.num.natAbs).length bc,.slice bb (dens b.den).length bd]) (by simp [results,Tryz.results88,go_sem,j0,j1,j2,j3,j4,j5]) rfl ?_
 have xx:=put6_below (Ext.trans b1 (Ext.trans b2 (Ext.trans b3 b4))) (show w.heap.size≤w.heap.size+1 by omega) (.bool (decide (r.num < 0))) (.slice aa (limbs a.num.natAbs).length ac) (.slice ab (dens a.den).length ad) (.bool (decide (s.num < 0))) (.slice ba (limbs b.num.natAbs).length bc) (.slice bb (dens b.den).length bd)
 exact hR.out _ _ (Gives.mk xx ⟨_,_,_,_,_,_,rfl,hna.out.ext xx,hnb.out.ext xx⟩)

set_option linter.unusedSimpArgs false in
theorem dsub_any {w:World} {va vb:Value} {a b c d:Rat} (hp:RdD w va a b) (hq:RdD w vb c d) (sa:Sz 10000000 a) (sb:Sz 10000000 b) (sc:Sz 10000000 c) (sd:Sz 10000000 d):
  Calls Tryz.prog 63 #[va,vb] w (Gives w fun v' w'=>OwnD 115 w.heap.size w' v' (a - c) (b - d)):=by
 refine via fun R hR=>?_
 rw [Rat.sub_eq_add_neg,Rat.sub_eq_add_neg] at hR
 generalize hr:a + -c=r at hR
 generalize hs:b + -d=s at hR
 have HRS:Hid (∀ {w va vb},RdD w va a b→RdD w vb (-c) (-d)→Calls Tryz.prog 64 #[va,vb] w (Gives w fun v' w'=>OwnD 115 w.heap.size w' v' r s)):=fun h1 h2=>hr ▸ hs ▸ dadd_any h1 h2 sa sb sc.neg sd.neg
 have HP:=Lib.hid hp
 have HQ:=Lib.hid hq
 obtain ⟨x0,x1,x2,x3,x4,x5,rfl,h1,h2⟩:=hp
 obtain ⟨y0,y1,y2,y3,y4,y5,rfl,h3,h4⟩:=hq
 obtain ⟨w1,hw1,b1,c1,c2,-,-,-,r3,-⟩:=bx3 w [x0,x1,x2,x3,x4,x5] [y0,y1,y2,y3,y4,y5] [.bool false,.slice none 0 0,.slice none 0 0,.bool false,.slice none 0 0,.slice none 0 0] 122 122 122
 have C1:=Lib.hid c1
 have C2:=Lib.hid c2
 have RR:Hid (Rm w1 (w.heap.size+1+1) 6):=r3
 have HW:=Lib.hid hw1
 clear h1 h2 h3 h4 sa sb sc sd c1 c2 r3 hw1 hr hs
 go_enter Tryz.func63,Tryz.ntmps63
 go_upto_region 1 with (fail)
 rw [← HW.out]
 clear HW
 have b2:=drew_ext w1
 have XE:=b2
 refine wp_region_noPanic ?_
 refine wp_region_held_drew (S:=fun w'=>(w'.cell? ⟨w.heap.size,0,none⟩=some (x0)∧w'.cell? ⟨w.heap.size,1,none⟩=some (x1)∧w'.cell? ⟨w.heap.size,2,none⟩=some (x2)∧w'.cell? ⟨w.heap.size,3,none⟩=some (x3)∧w'.cell? ⟨w.heap.size,4,none⟩=some (x4)∧w'.cell? ⟨w.heap.size,5,none⟩=some (x5))∧(w'.cell? ⟨w.heap.size+1,0,none⟩=some (y0)∧w'.cell? ⟨w.heap.size+1,1,none⟩=some (y1)∧w'.cell? ⟨w.heap.size+1,2,none⟩=some (y2)∧w'.cell? ⟨w.heap.size+1,3,none⟩=some (y3)∧w'.cell? ⟨w.heap.size+1,4,none⟩=some (y4)∧w'.cell? ⟨w.heap.size+1,5,none⟩=some (y5))) (by kernel_rfl) (⟨(C1.out.ext XE).c6,(C2.out.ext XE).c6⟩) (fun hHeld=>?_)
 refine tkH 0 hHeld ?_
 simp only [jP,jA,jB,jC,jD,jE,jF]
 refine tkH 1 hHeld ?_
 simp only [jP,jA,jB,jC,jD,jE,jF]
 refine rdH 2 (by kernel_rfl) rfl (fun K hK=>?_)
 go_simp
 go_at_call 88;refine (dneg_any (HQ.out.ext (Ext.trans b1 b2))).mono ?_;rintro e w3 ⟨v3,rfl,b3,o3⟩;have O3:=Lib.hid o3;clear o3;(first | have XE:=Ext.trans XE b3 | have XE:=Ext.trans (Ext.trans XE (Ext.alloc _ _)) b3)
 go_wp2_with fail
 refine hK.out _ _ (⟨(C1.out.ext XE).c6,(C2.out.ext XE).c6⟩) (fun hHeld=>?_)
 clear hK K
 try simp only [jP,jA,jB,jC,jD,jE,jF]
 refine rdH 3 (by kernel_rfl) rfl (fun K hK=>?_)
 go_simp
 go_at_call 64;refine (HRS.out (HP.out.ext (Ext.trans b1 (Ext.trans b2 b3))) O3.out).mono ?_;rintro e w4 ⟨_,rfl,b4,n4,d4,m4,c4,rfl,on4,od4,om4,oc4⟩;have ON4:=Lib.hid on4;have OD4:=Lib.hid od4;have OM4:=Lib.hid om4;have OC4:=Lib.hid oc4;clear on4 od4 om4 oc4;obtain ⟨an4,cn4,rfl,-,-,-,-⟩:=ON4.out.rd.1.shape;obtain ⟨ad4,cd4,rfl,-,-,-,-⟩:=OD4.out.rd.1.shape;obtain ⟨am4,cm4,rfl,-,-,-,-⟩:=OM4.out.rd.1.shape;obtain ⟨ac4,cc4,rfl,-,-,-,-⟩:=OC4.out.rd.1.shape;(first | have XE:=Ext.trans XE b4 | have XE:=Ext.trans (Ext.trans XE (Ext.alloc _ _)) b4);obtain ⟨_,_,_,_,_,_,j0,j1,j2,j3,j4,j5,g0,g1,g2,g3,g4,g5⟩:=(RR.out.ext XE).c6
 go_wp2_with fail
 refine hK.out _ _ (⟨(C1.out.ext XE).c6,(C2.out.ext XE).c6⟩) (fun hHeld=>?_)
 clear hK K
 try simp only [jP,jA,jB,jC,jD,jE,jF]
 refine rdH 4 (by kernel_rfl) rfl (fun K hK=>?_)
 go_simp
 refine hK.out _ _ (⟨((C1.out.ext XE).put6 (by omega) _ _ _ _ _ _).c6,((C2.out.ext XE).put6 (by omega) _ _ _ _ _ _).c6⟩) (fun hHeld=>?_)
 clear hK K
 try simp only [jP,jA,jB,jC,jD,jE,jF]
 refine wpAnyH_done (by kernel_rfl) ?_ _
 refine NoPanic.normal ?_
 go_wp2_with fail
 refine bodyPost_ret (v:=.agg #[.bool (decide (r.num < 0)),.slice an4 (limbs r.num.natAbs).length cn4,.slice ad4 (dens r.den).length cd4,.bool (decide (s.num < 0)),.slice am4 (limbs s.num.natAbs).length cm4,.slice ac4 (dens s.den).length cc4]) (by simp [results,Tryz.results63,go_sem,j0,j1,j2,j3,j4,j5]) rfl ?_
 have hz:=Lib.hid (Below.size (Ext.trans b2 b3))
 have hs:=Lib.hid RR.out.lt
 have hdr:w1.drew.heap.size=w1.heap.size:=rfl
 exact hR.out _ _ (Gives.mk (put6_below (Ext.trans b1 (Ext.trans b2 (Ext.trans b3 b4))) (by omega) _ _ _ _ _ _) ⟨_,_,_,_,rfl,(ON4.out.put6 (Ext.refl _) (by have:=hz.out;have:=hs.out;omega) _ _ _ _ _ _).mono (by have:=hz.out;have:=hs.out;omega),(OD4.out.put6 (Ext.refl _) (by have:=hz.out;have:=hs.out;omega) _ _ _ _ _ _).mono (by have:=hz.out;have:=hs.out;omega),(OM4.out.put6 (Ext.refl _) (by have:=hz.out;have:=hs.out;omega) _ _ _ _ _ _).mono (by have:=hz.out;have:=hs.out;omega),(OC4.out.put6 (Ext.refl _) (by have:=hz.out;have:=hs.out;omega) _ _ _ _ _ _).mono (by have:=hz.out;have:=hs.out;omega)⟩)

open Go.RowKit Go.Att

def mn (x y:Rat):Rat:=if (x - y).num.sign≤0 then x else y
def mx (x y:Rat):Rat:=if 0≤(x - y).num.sign then x else y
open Go.RowKit Go.Att

open Go.RowKit Go.Att

open Go.RowKit Go.Att

open Go.RowKit Go.Att

open Go.RowKit Go.Att

abbrev OwnY (B:Nat) (w:World) (v:Value) (l:TL) (c:Rat):Prop:=OwnEy 4 87 B w v l c
theorem etTp8:ElemT Tryz.prog 78 87 (.agg #[.int .i64 0,.bool false,.slice none 0 0,.slice none 0 0]) 4 64:=ElemT.mk' Tryz.underlying78 (by kernel_rfl) rfl (by decide)
theorem take_snoc8 {l:TL} {j:Nat} (hj:j < l.length):l.take (j+1)=l.take j ++ [gt l j]:=by rw [← List.take_append_getElem hj,gt_lt hj]
set_option linter.unusedSimpArgs false in
set_option maxHeartbeats 4000000 in
set_option maxRecDepth 100000 in
theorem told8_any {w:World} {v:Value} {l:TL} {c:Rat} (hv:RdX w v l c) (hs:∀ t∈l,Sz 1000000 t.2) (hsc:Sz 1000000 c) (hl:l.length≤1000):
  Calls Tryz.prog 53 #[v] w (Gives w fun v' w'=>OwnY w.heap.size w' v' l c):=by
 refine via fun R hR=>?_
 have HS:=Lib.hid hs
 have HSC:=Lib.hid hsc
 obtain ⟨a,k,s,b,m,d,b',m',d',rfl,hlk,hkm,HRW,HRC⟩:=hv.op
 clear hv hs hsc
 obtain ⟨w1,hw1,b1,c2,c3,r2,r3,-⟩:=bx2 w [.slice a l.length k,.bool s,.slice b m d,.slice b' m' d'] [.slice none 0 0,.bool false,.slice none 0 0,.slice none 0 0] 53 83
 have HW:=Lib.hid hw1
 have C2:=Lib.hid c2
 have R2:Hid (Rt w1 (w.heap.size+1) 4 83):=by
  show Rt _ _ _ _
  rw [hw1]
  have:=Rt.new (w.alloc (.cells #[.slice a l.length k,.bool s,.slice b m d,.slice b' m' d'] 53)) [.slice none 0 0,.bool false,.slice none 0 0,.slice none 0 0] 83
  simpa using this
 clear c2 c3 r2 r3 hw1
 go_enter Tryz.func53,Tryz.ntmps53
 go_upto_region 1 with (fail)
 rw [← HW.out]
 clear HW
 obtain ⟨j0,j1,j2,j3⟩:=C2.out.c4
 go_wp2_with fail
 refine (told_any (HRC.out.rd.ext b1) HSC.out).mono ?_
 rintro e w2 ⟨_,rfl,b2,o2⟩
 obtain ⟨s7,a7,l7,c7,a6,l6,c6,rfl,O2⟩:=o2.op
 clear o2 j0 j1 j2 j3
 obtain ⟨w3,hw3,b3,c3,hr3,-⟩:=bx1 w2 [.slice none 0 0,.bool s7,.slice a7 l7 c7,.slice a6 l6 c6] 83
 have HW:=Lib.hid hw3
 have R3:Hid (Rt w3 w2.heap.size 4 83):=by
  show Rt _ _ _ _
  rw [hw3]
  exact Rt.new w2 [.slice none 0 0,.bool s7,.slice a7 l7 c7,.slice a6 l6 c6] 83
 have C3:=Lib.hid c3
 clear hw3 c3 hr3
 go_upto_region 2 with (fail)
 rw [← HW.out]
 clear HW
 obtain ⟨BO,hBO⟩:∃ BO,w2.heap.size=BO:=⟨_,rfl⟩
 have h12:=b2.size
 rw [hBO] at R3 C3 ⊢
 have hBO1:w1.heap.size≤BO:=by omega
 clear hBO h12
 obtain ⟨j0,j1,j2,j3⟩:=(C2.out.ext (Ext.trans b2 b3)).c4
 go_wp2_with fail
 clear j0 j1 j2 j3
 go_loopw [13] (fun t wr=>∃ (j:Nat) (ao:Option Addr) (ko:Nat),t=.int .i64 j∧j≤l.length∧Ext w1 wr∧Hid (Bx wr BO [.slice ao (l.take j).length ko,.bool s7,.slice a7 l7 c7,.slice a6 l6 c6])∧Hid (Rt wr BO 4 83)∧Hid (OwnP 4 0 wr (.agg #[.bool s7,.slice a7 l7 c7,.slice a6 l6 c6]) c)∧Hid (OwnRow 4 (OwnTp 4) 87 w1.heap.size wr (.slice ao (l.take j).length ko) (l.take j))) (fun t _=>l.length - (intOf t).toNat)
 case atStart=>exact ⟨0,none,0,rfl,Nat.zero_le _,Ext.trans b2 b3,by rw [List.take_zero];exact C3.out,R3.out,(O2.out.mono (Nat.zero_le _)).ext b3,by rw [List.take_zero];exact OwnRow.nil _ _ _⟩
 case round=>
  clear O2 C3 R3
  obtain ⟨j,ao,ko,rfl,hj,hx,hC,hRt,hQ,hO⟩:=hrel
  by_cases hjl:j < l.length
  ·have hd:decide ((j:Int) < (l.length:Int))=true:=decide_eq_true (by omega)
   obtain ⟨bT,oT,rfl⟩:=HRW.out.some_at hjl
   obtain ⟨sx,ax,lx,mx,ay,ly,my,hB4,hQT⟩:=HRW.out.tm j hjl
   obtain ⟨u0,u1,u2,u3⟩:=hB4.ext (Ext.trans b1 hx)
   have hJ1:IntKind.i64.wrap (j:Int)=(j:Int):=by rw [IntKind.wrap_i64];omega
   have hJ2:(0:Int)≤(j:Int)∧(j:Int) < (l.length:Int):=⟨by omega,by omega⟩
   have HSN:=Lib.hid (take_snoc8 hjl)
   have HOL:Hid ((l.take j).length=j):=by show _=_;rw [List.length_take];omega
   have HSQ:Hid (Sz 1000000 (gt l j).2):=by show Sz _ _;rw [gt_lt hjl];exact HS.out _ (List.getElem_mem hjl)
   obtain ⟨y,hy⟩:∃ y,(gt l j).1=y:=⟨_,rfl⟩
   obtain ⟨q4,hq4⟩:∃ q4,(gt l j).2=q4:=⟨_,rfl⟩
   have hyq:gt l j=(y,q4):=Prod.ext hy hq4
   rw [hyq] at HSN
   rw [hq4] at HSQ
   rw [hy] at u0
   rw [hq4] at hQT
   have HQT:=Lib.hid (hQT.ext (Ext.trans b1 hx))
   clear hy hq4 hyq hB4 hQT
   obtain ⟨ol,hol⟩:∃ ol,l.take j=ol:=⟨_,rfl⟩
   rw [hol] at hC hO HOL
   try rw [hol] at HSN
   clear hol
   obtain ⟨ol2,hol2⟩:∃ ol2,ol ++ [(y,q4)]=ol2:=⟨_,rfl⟩
   have HS2:=Lib.hid hol2
   rw [hol2] at HSN
   clear hol2
   obtain ⟨w4,hw4,b4,c4,-,-⟩:=bx1 wr [.int .i64 y,.bool sx,.slice ax lx mx,.slice ay ly my] 68
   have HW:=Lib.hid hw4
   have DT:=Lib.hid c4
   clear hw4 c4
   go_upto_region 5 with (fail)
   rw [← HW.out]
   clear HW u0 u1 u2 u3
   have b14:=Ext.trans hx b4
   have DO:=Lib.hid (hC.out.ext b4)
   have hRt4:=Lib.hid (hRt.out.ext b4)
   have HQ4:=Lib.hid (HQT.out.ext b4)
   have hO4:=Lib.hid (hO.out.ext OwnTp.ext b4)
   have hQ4:=Lib.hid (hQ.out.ext b4)
   have neO:=hO.out.ne_rt hRt.out (by decide)
   have neT:=hO.out.ne_new
   have b5:=drew_ext w4
   have XE:=b5
   refine wp_region_noPanic ?_
   refine wp_region_last_drew (st:=11) (S:=fun w'=>(w'.cell? ⟨BO,0,none⟩=some (.slice ao ol.length ko))∧(w'.cell? ⟨wr.heap.size,0,none⟩=some (.int .i64 y)∧w'.cell? ⟨wr.heap.size,1,none⟩=some (.bool sx)∧w'.cell? ⟨wr.heap.size,2,none⟩=some (.slice ax lx mx)∧w'.cell? ⟨wr.heap.size,3,none⟩=some (.slice ay ly my))) (by kernel_rfl) (⟨(DO.out.ext XE).c1,(DT.out.ext XE).c4⟩) (fun hHeld=>?_)
   refine tkL 0 hHeld ?_
   simp only [jP,jA,jB,jC,jD,jE,jF]
   refine tkL 1 hHeld ?_
   simp only [jP,jA,jB,jC,jD,jE,jF]
   refine tkL 2 hHeld ?_
   simp only [jP,jA,jB,jC,jD,jE,jF]
   refine tkL 3 hHeld ?_
   simp only [jP,jA,jB,jC,jD,jE,jF]
   refine tkL 4 hHeld ?_
   simp only [jP,jA,jB,jC,jD,jE,jF]
   refine tkL 5 hHeld ?_
   simp only [jP,jA,jB,jC,jD,jE,jF]
   refine rdL 6 (by kernel_rfl) rfl (fun K hK=>?_)
   go_simp
   go_at_call 46;refine (told_any (HQ4.out.rd.ext XE) HSQ.out).mono ?_;rintro e w6 ⟨v6,rfl,b6,o6⟩;have O6:=Lib.hid o6;clear o6;(first | have XE:=Ext.trans XE b6 | have XE:=Ext.trans (Ext.trans XE (Ext.alloc _ _)) b6);obtain ⟨s6,e6,n6,g6,f6,m6,h6,rfl,P6⟩:=O6.out.op
   go_wp2_with fail
   refine hK.out _ _ (⟨(DO.out.ext XE).c1,(DT.out.ext XE).c4⟩) (fun hHeld=>?_)
   clear hK K
   try simp only [jP,jA,jB,jC,jD,jE,jF]
   refine tkL 7 hHeld ?_
   simp only [jP,jA,jB,jC,jD,jE,jF]
   refine rdL 8 (by kernel_rfl) rfl (fun K hK=>?_)
   go_simp
   refine hK.out _ _ (⟨(DO.out.ext (Ext.trans XE (Ext.alloc _ _))).c1,(DT.out.ext (Ext.trans XE (Ext.alloc _ _))).c4⟩) (fun hHeld=>?_)
   clear hK K
   try simp only [jP,jA,jB,jC,jD,jE,jF]
   refine rdL 9 (by kernel_rfl) rfl (fun K hK=>?_)
   refine if_wantedL rfl ?_
   refine append_row (y:=(y,q4)) etTp8 (kdTP (e:=4) (by decide)) _ _ (by rfl) w1.heap.size (by rfl) _ (by rfl) (hO4.out.ext OwnTp.ext XE) rfl ⟨_,_,_,rfl,P6.out.mono (Nat.zero_le _)⟩ (Below.size (Ext.trans hx (Ext.trans b4 XE))) (by have:=HOL.out;omega) (by have:=HOL.out;unfold maxLen;omega) ?_
   intro v9 w9 o9 b9 g9
   have xA:=Ext.trans XE (Ext.alloc w6 (.cells #[.int .i64 y,.bool s6,.slice e6 n6 g6,.slice f6 m6 h6] 87))
   have RO9:=Lib.hid ((hRt4.out.ext xA).grow g9 neO)
   have DO9:=Lib.hid ((DO.out.ext xA).grow g9 neO)
   obtain ⟨nn,xs,hown⟩:=((hO4.out.ext OwnTp.ext xA)).own
   have HQ9:=Lib.hid (OwnP.grown (hQ4.out.ext xA) hown (by decide) g9)
   have XW:=Below.trans (Ext.trans hx b4) (Below.trans (Below.mono XE (Below.size (Ext.trans hx b4))) b9)
   rw [HS2.out] at o9
   obtain ⟨a11,k11,rfl,-,-⟩:=o9.rd.shape
   refine hK.out _ _ ⟨DO9.out.c1,((DT.out.ext xA).grow g9 neT).c4⟩ (fun hHeld=>?_)
   clear hK K
   try simp only [jP,jA,jB,jC,jD,jE,jF]
   refine tkL 10 hHeld ?_
   simp only [jP,jA,jB,jC,jD,jE,jF]
   obtain ⟨_,_,_,_,n0,n1,n2,n3,i0,i1,i2,i3⟩:=RO9.out.c4
   refine wpAnyL_ready (rs:=[11]) (by kernel_rfl) (by simp) ?_
   refine AllReadyL.last (o:=_) rfl (fun K hK=>?_)
   go_simp
   refine hK.out _ _ ?_
   clear hK K
   try simp only [jP,jA,jB,jC,jD,jE,jF]
   refine wpAnyL_done (by kernel_rfl) ?_ _
   refine NoPanic.normal ?_
   go_wp2_with fail
   go_roundw
   case rel=>exact ⟨j+1,a11,k11,by go_num,by omega,putL_below hBO1 [_] 0 XW,by
    show Hid (Bx _ BO [.slice a11 (l.take (j+1)).length k11,_,_,_])
    rw [HSN.out]
    exact DO9.out.set0 RO9.out (by decide) _,RO9.out.set0 _,HQ9.out.putT RO9.out (by decide) 0 [_],by
    show Hid (OwnRow _ _ _ _ _ (.slice a11 (l.take (j+1)).length k11) (l.take (j+1)))
    rw [HSN.out]
    exact o9.putT RO9.out (by decide) 0 [_] (fun v a h=>h.putT RO9.out (by decide) 0 [_])⟩
   case measure=>simp [intOf] <;> omega
  ·obtain rfl:j=l.length:=by omega
   have hd:decide ((l.length:Int) < (l.length:Int))=false:=decide_eq_false (by omega)
   rw [List.take_length] at hC hO
   obtain ⟨k0,k1,k2,k3⟩:=hC.out.c4
   have RR:=Lib.hid (R2.out.ext hx)
   have h01:w.heap.size≤w1.heap.size:=Below.size b1
   obtain ⟨_,_,_,_,j0,j1,j2,j3,i0,i1,i2,i3⟩:=RR.out.c4
   go_wp2_with fail
   refine bodyPost_ret (v:=.agg #[.slice ao l.length ko,.bool s7,.slice a7 l7 c7,.slice a6 l6 c6]) (by simp [results,Tryz.results53,go_sem,j0,j1,j2,j3]) rfl ?_
   exact hR.out _ _ (Gives.mk (put4_below (Ext.trans b1 hx) (by omega) _ _ _ _ _) (OwnEy.putT ⟨_,_,_,_,rfl,hO.out.mono h01,hQ.out⟩ RR.out (by decide) (by decide) 0 [_,_,_,_]))
open Go.RowKit Go.Att

theorem of8_p {w:World} {v:Value} {n:NN} (h:RdNp w v n) (hn:Nlt 1000000000 n):Calls Tryz.prog 42 #[v] w (Gives w fun v' w'=>OwnQ 115 w.heap.size w' v' (qN n)):=of8_any h hn.1 hn.2
theorem tL_snoc {l:List (Int × NN)} {j:Nat} (hj:j < l.length):(l.take (j+1)).map qT=(l.take j).map qT ++ [(l[j].1,qN l[j].2)]:=by
 rw [← List.take_append_getElem hj,List.map_append];rfl
set_option linter.unusedSimpArgs false in
set_option maxHeartbeats 4000000 in
set_option maxRecDepth 100000 in
theorem expr8_any {w:World} {v:Value} {l:List (Int × NN)} {n:NN} (hv:RdNE w v l n) (hs:∀ t∈l,Nlt 1000000000 t.2) (hn:Nlt 1000000000 n):
  Calls Tryz.prog 52 #[v] w (Gives w fun v' w'=>OwnX w.heap.size w' v' (tL l) (qN n)):=by
 refine via fun R hR=>?_
 unfold tL at hR
 have HS:=Lib.hid hs
 have HN:=Lib.hid hn
 obtain ⟨sl,y,z,rfl,hrow,hc⟩:=hv
 obtain ⟨a,k,rfl,hlk,hkm⟩:=hrow.shape
 unfold maxLen at hkm
 have HRW:=Lib.hid hrow
 have HRC:=Lib.hid hc
 obtain ⟨sg,hsg⟩:∃ sg,n.1=sg:=⟨_,rfl⟩
 rw [hsg] at HRC ⊢
 clear hrow hc hs hn hsg
 obtain ⟨w1,hw1,b1,c2,c3,r2,r3,-⟩:=bx2 w [.slice a l.length k,.bool sg,y,z] [.slice none 0 0,.bool false,.slice none 0 0,.slice none 0 0] 75 53
 have HW:=Lib.hid hw1
 have C2:=Lib.hid c2
 have R2:Hid (Rt w1 (w.heap.size+1) 4 53):=by
  show Rt _ _ _ _
  rw [hw1]
  have:=Rt.new (w.alloc (.cells #[.slice a l.length k,.bool sg,y,z] 75)) [.slice none 0 0,.bool false,.slice none 0 0,.slice none 0 0] 53
  simpa using this
 clear c2 c3 r2 r3 hw1
 go_enter Tryz.func52,Tryz.ntmps52
 go_upto_region 1 with (fail)
 rw [← HW.out]
 clear HW
 obtain ⟨j0,j1,j2,j3⟩:=C2.out.c4
 go_wp2_with fail
 refine (of8_p (HRC.out.ext b1) HN.out).mono ?_
 rintro e w2 ⟨_,rfl,b2,o2⟩
 obtain ⟨s7,a7,l7,c7,a6,l6,c6,rfl,O2⟩:=o2.op
 clear o2 j0 j1 j2 j3
 obtain ⟨w3,hw3,b3,c3,hr3,-⟩:=bx1 w2 [.slice none 0 0,.bool s7,.slice a7 l7 c7,.slice a6 l6 c6] 53
 have HW:=Lib.hid hw3
 have R3:Hid (Rt w3 w2.heap.size 4 53):=by
  show Rt _ _ _ _
  rw [hw3]
  exact Rt.new w2 [.slice none 0 0,.bool s7,.slice a7 l7 c7,.slice a6 l6 c6] 53
 have C3:=Lib.hid c3
 clear hw3 c3 hr3
 go_upto_region 2 with (fail)
 rw [← HW.out]
 clear HW
 obtain ⟨BO,hBO⟩:∃ BO,w2.heap.size=BO:=⟨_,rfl⟩
 have h12:=b2.size
 rw [hBO] at R3 C3 ⊢
 have hBO1:w1.heap.size≤BO:=by omega
 clear hBO h12
 generalize qN n=c at*
 go_wp2_with fail
 go_loopw [4] (fun t wr=>∃ (j:Nat) (ao:Option Addr) (ko:Nat),t=.int .i64 j∧j≤l.length∧j≤12∧Ext w1 wr∧Hid (Bx wr BO [.slice ao ((l.take j).map qT).length ko,.bool s7,.slice a7 l7 c7,.slice a6 l6 c6])∧Hid (Rt wr BO 4 53)∧Hid (OwnQ 115 0 wr (.agg #[.bool s7,.slice a7 l7 c7,.slice a6 l6 c6]) c)∧Hid (OwnRow 4 (OwnTm 115) 68 w1.heap.size wr (.slice ao ((l.take j).map qT).length ko) ((l.take j).map qT))) (fun t _=>l.length - (intOf t).toNat)
 case atStart=>exact ⟨0,none,0,rfl,Nat.zero_le _,Nat.zero_le _,Ext.trans b2 b3,by rw [List.take_zero];exact C3.out,R3.out,(O2.out.mono (Nat.zero_le _)).ext b3,by rw [List.take_zero];exact OwnRow.nil _ _ _⟩
 case round=>
  clear O2 C3 R3
  obtain ⟨j,ao,ko,rfl,hj,hj12,hx,hC,hRt,hQ,hO⟩:=hrel
  obtain ⟨j0,j1,j2,j3⟩:=(C2.out.ext hx).c4
  by_cases hjl:j < l.length
  ·have hd:decide ((j:Int) < (l.length:Int))=true:=decide_eq_true (by omega)
   have hd':decide (j < l.length)=true:=decide_eq_true hjl
   by_cases hj2:j < 12
   ·have hd2:decide ((j:Int) < 12)=true:=decide_eq_true (by omega)
    obtain ⟨bT,oT,rfl⟩:=HRW.out.some_atN hjl
    obtain ⟨yy,zz,hB4,hQT⟩:=HRW.out.nt j hjl
    have hJ1:IntKind.i64.wrap (j:Int)=(j:Int):=by rw [IntKind.wrap_i64];omega
    have hJ2:(0:Int)≤(j:Int)∧(j:Int) < (l.length:Int):=⟨by omega,by omega⟩
    have HSN:=Lib.hid (tL_snoc hjl)
    have HOL:Hid (((l.take j).map qT).length=j):=by show _=_;rw [List.length_map,List.length_take];omega
    have HSQ:Hid (Nlt 1000000000 l[j].2):=HS.out _ (List.getElem_mem hjl)
    have HQT:=Lib.hid (RdNp.ext hQT (Ext.trans b1 hx))
    have DB:=Lib.hid (hB4.ext (Ext.trans b1 hx))
    have DBX:=Lib.hid (hB4.ext b1)
    obtain ⟨u,hu⟩:∃ u,l[j].1=u:=⟨_,rfl⟩
    obtain ⟨q4,hq4⟩:∃ q4,qN l[j].2=q4:=⟨_,rfl⟩
    have HOF:Hid (∀ w v,RdNp w v l[j].2→Calls Tryz.prog 42 #[v] w (Gives w fun v' w'=>OwnQ 115 w.heap.size w' v' q4)):=fun w v h=>hq4 ▸ of8_p h HSQ.out
    rw [hu] at DB DBX HSN
    rw [hq4] at HSN
    generalize l[j].2=nn4 at*
    obtain ⟨sb,hsb⟩:∃ sb,nn4.1=sb:=⟨_,rfl⟩
    rw [hsb] at DB DBX HQT
    clear hB4 hQT hu hsb
    obtain ⟨ol,hol⟩:∃ ol,(l.take j).map qT=ol:=⟨_,rfl⟩
    rw [hol] at hC hO HOL HSN
    clear hol
    obtain ⟨ol2,hol2⟩:∃ ol2,ol ++ [(u,q4)]=ol2:=⟨_,rfl⟩
    have HS2:=Lib.hid hol2
    rw [hol2] at HSN
    clear hol2
    obtain ⟨w4,hw4⟩:∃ w0:World,w0=wr:=⟨_,rfl⟩
    subst hw4
    have C24:=Lib.hid (C2.out.ext hx)
    have neO:=hO.out.ne_rt hRt.out (by decide)
    go_wp2_with fail
    clear j0 j1 j2 j3
    have b5:=drew_ext w4
    have XE:=b5
    refine wp_region_noPanic ?_
    refine wp_region_last_drew (st:=19) (S:=fun w'=>(w'.cell? ⟨BO,0,none⟩=some (.slice ao ol.length ko))∧(w'.cell? ⟨w.heap.size,0,none⟩=some (.slice (some ⟨bT,oT,none⟩) l.length k))∧(w'.cell? ⟨bT,oT+j*4,none⟩=some (.int .i64 u)∧w'.cell? ⟨bT,oT+j*4+1,none⟩=some (.bool sb)∧w'.cell? ⟨bT,oT+j*4+2,none⟩=some (yy)∧w'.cell? ⟨bT,oT+j*4+3,none⟩=some (zz))) (by kernel_rfl) (⟨(hC.out.ext XE).c1,(C24.out.ext XE).c1,DB.out.ext XE⟩) (fun hHeld=>?_)
    refine tkL 0 hHeld ?_
    simp only [jP,jA,jB,jC,jD,jE,jF]
    refine tkL 1 hHeld ?_
    simp only [jP,jA,jB,jC,jD,jE,jF]
    refine tkL 2 hHeld ?_
    simp only [jP,jA,jB,jC,jD,jE,jF]
    refine tkL 3 hHeld ?_
    simp only [jP,jA,jB,jC,jD,jE,jF]
    refine tkL 4 hHeld ?_
    simp only [jP,jA,jB,jC,jD,jE,jF]
    refine tkL 5 hHeld ?_
    simp only [jP,jA,jB,jC,jD,jE,jF]
    refine tkL 6 hHeld ?_
    simp only [jP,jA,jB,jC,jD,jE,jF]
    refine tkL 7 hHeld ?_
    simp only [jP,jA,jB,jC,jD,jE,jF]
    refine tkL 8 hHeld ?_
    simp only [jP,jA,jB,jC,jD,jE,jF]
    refine tkL 9 hHeld ?_
    simp only [jP,jA,jB,jC,jD,jE,jF]
    refine tkL 10 hHeld ?_
    simp only [jP,jA,jB,jC,jD,jE,jF]
    refine tkL 11 hHeld ?_
    simp only [jP,jA,jB,jC,jD,jE,jF]
    refine tkL 12 hHeld ?_
    simp only [jP,jA,jB,jC,jD,jE,jF]
    refine tkL 13 hHeld ?_
    simp only [jP,jA,jB,jC,jD,jE,jF]
    refine rdL 14 (by kernel_rfl) rfl (fun K hK=>?_)
    go_simp
    go_at_call 42;refine (HOF.out _ _ (RdNp.ext HQT.out XE)).mono ?_;rintro e w6 ⟨v6,rfl,b6,o6⟩;have O6:=Lib.hid o6;clear o6;(first | have XE:=Ext.trans XE b6 | have XE:=Ext.trans (Ext.trans XE (Ext.alloc _ _)) b6);obtain ⟨s6,e6,n6,g6,f6,m6,h6,rfl,P6⟩:=O6.out.op
    go_wp2_with fail
    refine hK.out _ _ (⟨(hC.out.ext XE).c1,(C24.out.ext XE).c1,DB.out.ext XE⟩) (fun hHeld=>?_)
    clear hK K
    try simp only [jP,jA,jB,jC,jD,jE,jF]
    refine tkL 15 hHeld ?_
    simp only [jP,jA,jB,jC,jD,jE,jF]
    refine rdL 16 (by kernel_rfl) rfl (fun K hK=>?_)
    go_simp
    refine hK.out _ _ (⟨(hC.out.ext (Ext.trans XE (Ext.alloc _ _))).c1,(C24.out.ext (Ext.trans XE (Ext.alloc _ _))).c1,DB.out.ext (Ext.trans XE (Ext.alloc _ _))⟩) (fun hHeld=>?_)
    clear hK K
    try simp only [jP,jA,jB,jC,jD,jE,jF]
    refine rdL 17 (by kernel_rfl) rfl (fun K hK=>?_)
    refine if_wantedL rfl ?_
    refine append_row (y:=(u,q4)) etTm (kdT (e:=115) (by decide)) _ _ (by rfl) w1.heap.size (by rfl) _ (by rfl) (hO.out.ext OwnTm.ext XE) rfl ⟨_,_,_,rfl,P6.out.mono (Nat.zero_le _)⟩ (Below.size (Ext.trans hx XE)) (by have:=HOL.out;omega) (by have:=HOL.out;unfold maxLen;omega) ?_
    intro v9 w9 o9 b9 g9
    have xA:=Ext.trans XE (Ext.alloc w6 (.cells #[.int .i64 u,.bool s6,.slice e6 n6 g6,.slice f6 m6 h6] 68))
    have RO9:=Lib.hid ((hRt.out.ext xA).grow g9 neO)
    have DO9:=Lib.hid ((hC.out.ext xA).grow g9 neO)
    obtain ⟨nn,xs,hown⟩:=((hO.out.ext OwnTm.ext xA)).own
    have HQ9:=Lib.hid (OwnQ.grown (hQ.out.ext xA) hown (by decide) g9)
    have XW:=Below.trans hx (Below.trans (Below.mono XE (Below.size hx)) b9)
    have DB9:=DBX.out.ext (show Ext w1 w9 from XW)
    rw [HS2.out] at o9
    obtain ⟨a11,k11,rfl,-,-⟩:=o9.rd.shape
    refine hK.out _ _ ⟨DO9.out.c1,(C2.out.ext (show Ext w1 w9 from XW)).c1,DB9⟩ (fun hHeld=>?_)
    clear hK K
    try simp only [jP,jA,jB,jC,jD,jE,jF]
    refine tkL 18 hHeld ?_
    simp only [jP,jA,jB,jC,jD,jE,jF]
    obtain ⟨_,_,_,_,n0,n1,n2,n3,i0,i1,i2,i3⟩:=RO9.out.c4
    refine wpAnyL_ready (rs:=[19]) (by kernel_rfl) (by simp) ?_
    refine AllReadyL.last (o:=_) rfl (fun K hK=>?_)
    go_simp
    refine hK.out _ _ ?_
    clear hK K
    try simp only [jP,jA,jB,jC,jD,jE,jF]
    refine wpAnyL_done (by kernel_rfl) ?_ _
    refine NoPanic.normal ?_
    go_wp2_with fail
    go_roundw
    case rel=>exact ⟨j+1,a11,k11,by go_num,by omega,by omega,putL_below hBO1 [_] 0 XW,by
     rw [HSN.out]
     exact DO9.out.set0 RO9.out (by decide) _,RO9.out.set0 _,HQ9.out.putT RO9.out (by decide) 0 [_],by
     rw [HSN.out]
     exact o9.putT RO9.out (by decide) 0 [_] (fun v a h=>h.putT RO9.out (by decide) 0 [_])⟩
    case measure=>simp [intOf] <;> omega
   ·have hd2:decide ((j:Int) < 12)=false:=decide_eq_false (by omega)
    have HT12:Hid ((l.take j).map qT=(l.take 12).map qT):=(by show _=_;rw [show j=12 by omega])
    rw [HT12.out] at hC hO
    clear j0 j1 j2 j3
    generalize (l.take 12).map qT=ol at*
    obtain ⟨k0,k1,k2,k3⟩:=hC.out.c4
    obtain ⟨j0,j1,j2,j3⟩:=(C2.out.ext hx).c4
    have RR:=Lib.hid (R2.out.ext hx)
    have h01:w.heap.size≤w1.heap.size:=Below.size b1
    obtain ⟨_,_,_,_,n0,n1,n2,n3,i0,i1,i2,i3⟩:=RR.out.c4
    go_wp2_with fail
    refine bodyPost_ret (v:=.agg #[.slice ao ol.length ko,.bool s7,.slice a7 l7 c7,.slice a6 l6 c6]) (by simp [results,Tryz.results52,go_sem,n0,n1,n2,n3]) rfl ?_
    exact hR.out _ _ (Gives.mk (put4_below (Ext.trans b1 hx) (by omega) _ _ _ _ _) (OwnEx.putT ⟨_,_,_,_,rfl,hO.out.mono h01,hQ.out⟩ RR.out (by decide) (by decide) 0 [_,_,_,_]))
  ·have hd:decide ((j:Int) < (l.length:Int))=false:=decide_eq_false (by omega)
   have hd':decide (j < l.length)=false:=decide_eq_false hjl
   have HT12:Hid ((l.take j).map qT=(l.take 12).map qT):=(by show _=_;rw [List.take_of_length_le (show l.length≤j by omega),List.take_of_length_le (show l.length≤12 by omega)])
   rw [HT12.out] at hC hO
   clear j0 j1 j2 j3
   generalize (l.take 12).map qT=ol at*
   obtain ⟨k0,k1,k2,k3⟩:=hC.out.c4
   obtain ⟨j0,j1,j2,j3⟩:=(C2.out.ext hx).c4
   have RR:=Lib.hid (R2.out.ext hx)
   have h01:w.heap.size≤w1.heap.size:=Below.size b1
   obtain ⟨_,_,_,_,n0,n1,n2,n3,i0,i1,i2,i3⟩:=RR.out.c4
   go_wp2_with fail
   refine bodyPost_ret (v:=.agg #[.slice ao ol.length ko,.bool s7,.slice a7 l7 c7,.slice a6 l6 c6]) (by simp [results,Tryz.results52,go_sem,n0,n1,n2,n3]) rfl ?_
   exact hR.out _ _ (Gives.mk (put4_below (Ext.trans b1 hx) (by omega) _ _ _ _ _) (OwnEx.putT ⟨_,_,_,_,rfl,hO.out.mono h01,hQ.out⟩ RR.out (by decide) (by decide) 0 [_,_,_,_]))
open Go.RowKit Go.Att

def Smx (l:TL) (c:Rat):Prop:=l.length≤12∧(∀ t∈l,Sz 8 t.2)∧Sz 8 c
theorem Smx.okx {l:TL} {c:Rat} (h:Smx l c):Okx 380 l c:=(Okx.of (L:=8) (n:=12) h.2.1 h.1 (by decide) h.2.2 (Nat.le_refl _)).le (by decide)
theorem Smx.cf {l:TL} {c:Rat} (h:Smx l c) (x:Int):Sz 109 (cf l x):=(cf_sz h.2.1 x).le (by have:=h.1;omega)
theorem tL_sm {w:World} {v:Value} {l:List (Int × NN)} {n:NN} (hv:RdNE w v l n):Smx (tL l) (qN n):=⟨tL_len l,(tL_sz hv).1,(tL_sz hv).2⟩
theorem expr8_sm {w:World} {v:Value} {l:List (Int × NN)} {n:NN} (hv:RdNE w v l n) (hs:∀ t∈l,Nlt 1000000000 t.2) (hn:Nlt 1000000000 n):
  Calls Tryz.prog 52 #[v] w (Gives w fun v' w'=>OwnX 0 w' v' (tL l) (qN n)):=
 (expr8_any hv hs hn).mono fun _ _ ⟨v,e,b,o⟩=>⟨v,e,b,o.mono (Nat.zero_le _)⟩
end Go.Proofs.YthpaifdfafjlcaaGreat
