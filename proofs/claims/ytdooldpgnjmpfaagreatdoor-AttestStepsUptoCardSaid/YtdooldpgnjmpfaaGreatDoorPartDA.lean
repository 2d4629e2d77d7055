/- A group of texts: PCanonical, PGreatP, PInsideP, PKnown, PAlways, PRenamed -/
import Derived.Test.YtdooldpgnjmpfaaGreatDoorSq
import Derived.Test.YtdooldpgnjmpfaaGreatDoorPartCE
import Derived.Test.YtdooldpgnjmpfaaGreatDoorPartBB
import Derived.Test.YtdooldpgnjmpfaaGreatDoorPartAJ
import Derived.Test.YtdooldpgnjmpfaaGreatDoorPartBJ
import Derived.Test.YtdooldpgnjmpfaaGreatDoorPartCA
import Derived.Test.YtdooldpgnjmpfaaGreatDoorPartAI
import Derived.Test.YtdooldpgnjmpfaaGreatDoorPartCF
import Derived.Test.YtdooldpgnjmpfaaGreatDoorPartBA
import Derived.Test.YtdooldpgnjmpfaaGreatDoorPartAG
namespace Go.Proofs.YtdooldpgnjmpfaaGreatDoor
open Go.RowKit Go.Att

set_option linter.unusedSimpArgs false in
set_option maxHeartbeats 20000000 in
set_option maxRecDepth 100000 in
theorem canonical_any {w:World} {v:Value} {a:AT} (hv:OwnA w v a) (hg:canA a=(a,0)) (hop:1≤a.2∧a.2≤3) (hs:Sm3 a):
  Calls Tryz.prog 33 #[v] w (Gives w fun v' _=>v'=.bool true):=by
 refine via fun R hR=>?_
 have HC1:Hid (∀ w',Ext w w'→Calls Tryz.prog 30 #[v] w' (Gives w' fun v' w'=>∃ u,v'=.tuple #[u,.int .i64 0,.int .i64 0]∧OwnA w' u a)):=fun w' x=>by
  have h:=acanon_any (OwnAt.ext hv x) hop hs
  rw [hg] at h
  exact h
 obtain ⟨a0,k,s,b,m,d,b',m',d',rfl,HX⟩:=hv.op
 have HS:=Lib.hid hs
 clear hv hg hop hs
 obtain ⟨⟨l,cc⟩,op⟩:=a
 dsimp only at*
 have HSZ:Hid (∀ t∈l,Sz 230 t.2):=HS.out.2.1
 have HSC:Hid (Sz 230 cc):=HS.out.2.2
 have HLN:Hid (l.length≤12):=HS.out.1
 obtain ⟨_,_,_,_,he,HRW',HRC'⟩:=HX.out
 simp only [Value.agg.injEq,Array.mk.injEq,List.cons.injEq,and_true] at he
 obtain ⟨rfl,rfl,rfl,rfl⟩:=he
 have HRW:=Lib.hid HRW'.rd
 have HRC:=Lib.hid HRC'.rd
 clear HRW' HRC' HX HS
 obtain ⟨n,hn⟩:∃ n,l.length=n:=⟨_,rfl⟩
 have HNL:=Lib.hid hn
 rw [hn] at HRW HLN ⊢
 have HC:Hid (∀ w',Ext w w'→Calls Tryz.prog 30 #[.agg #[.slice a0 n k,.bool s,.slice b m d,.slice b' m' d',.int .i64 op]] w' (Gives w' fun v' w'=>∃ e0 e1 e2 e3 e4 e5 e6 e7 e8,v'=.tuple #[.agg #[.slice e0 n e1,.bool e2,.slice e3 e4 e5,.slice e6 e7 e8,.int .i64 op],.int .i64 0,.int .i64 0]∧RdRow 4 (OwnTm 119) w' (.slice e0 n e1) l∧RdQ w' (.agg #[.bool e2,.slice e3 e4 e5,.slice e6 e7 e8]) cc)):=fun w' x=>by
  have h:=HC1.out w' x
  rw [hn] at h
  refine h.mono ?_
  rintro _ _ ⟨v,e,bb,u,rfl,o⟩
  obtain ⟨e0,e1,e2,e3,e4,e5,e6,e7,e8,rfl,O⟩:=OwnAt.op o
  obtain ⟨_,_,_,_,he,h1,h2⟩:=O.out
  simp only [Value.agg.injEq,Array.mk.injEq,List.cons.injEq,and_true] at he
  obtain ⟨rfl,rfl,rfl,rfl⟩:=he
  dsimp only at*
  rw [hn] at h1 e
  exact ⟨_,e,bb,e0,e1,e2,e3,e4,e5,e6,e7,e8,rfl,h1.rd,h2.rd⟩
 clear hn HC1
 obtain ⟨w1,hw1,b1,c1,-,-⟩:=bx1 w [.slice a0 n k,.bool s,.slice b m d,.slice b' m' d',.int .i64 op] 63
 have HW:=Lib.hid hw1
 have C1:=Lib.hid c1
 have B1:=Lib.hid b1
 clear hw1 c1 b1
 go_enter Tryz.func33,Tryz.ntmps33
 go_upto_region 1 with (fail)
 rw [← HW.out]
 clear HW
 obtain ⟨k0,k1,k2,k3,k4⟩:=C1.out.c5
 go_upto_region 2 with (go_at_call 30;refine (HC.out _ B1.out).mono ?_;rintro e w3 ⟨_,rfl,X3,e0,e1,e2,e3,e4,e5,e6,e7,e8,rfl,hr3,hq3⟩;have HR3:=Lib.hid hr3;have HQ3:=Lib.hid hq3;obtain ⟨w4,hw4,b4,c4,-,-⟩:=bx1 w3 [.slice e0 n e1,.bool e2,.slice e3 e4 e5,.slice e6 e7 e8,.int .i64 op] 63;have HW:=Lib.hid hw4;have C4:=Lib.hid c4;have X4:=Lib.hid (Ext.trans X3 b4);have B4:=Lib.hid b4;clear hw4 c4 b4 hr3 hq3)
 rw [← HW.out]
 clear HW k0 k1 k2 k3 k4 HC
 have HR4:=Lib.hid (HR3.out.ext OwnTm.ext B4.out)
 have HQ4:=Lib.hid (HQ3.out.ext B4.out)
 have HRW4:=Lib.hid (HRW.out.ext OwnTm.ext (Ext.trans B1.out X4.out))
 have HRC4:=Lib.hid (HRC.out.ext (Ext.trans B1.out X4.out))
 have XB4:=Lib.hid (Ext.trans B1.out X4.out)
 have C14:=Lib.hid (C1.out.ext X4.out)
 clear HR3 HQ3 HRW HRC
 obtain ⟨k0,k1,k2,k3,k4⟩:=C14.out.c5
 obtain ⟨q0,q1,q2,q3,q4⟩:=C4.out.c5
 have HCM:Hid (∀ w',Ext w4 w'→Calls Tryz.prog 54 #[.agg #[.bool e2,.slice e3 e4 e5,.slice e6 e7 e8],.agg #[.bool s,.slice b m d,.slice b' m' d']] w' (Gives w' fun v' _=>v'=.int .i64 0)):=fun w' x=>by
  have h:=rcmp_any (HQ4.out.ext x) (HRC4.out.ext x) (HSC.out.le (by decide)) (HSC.out.le (by decide))
  rw [Rat.sub_self] at h
  exact h
 go_upto_region 4 with (go_at_call 54;refine (HCM.out _ (Ext.refl _)).mono ?_;rintro e w5 ⟨_,rfl,X5,rfl⟩;have X5:=Lib.hid X5)
 clear k0 k1 k2 k3 k4 q0 q1 q2 q3 q4 HCM
 obtain ⟨q0,q1,q2,q3,q4⟩:=(C4.out.ext X5.out).c5
 go_upto_region 5 with fail
 clear q0 q1 q2 q3 q4
 go_loopw [46] (fun t wr=>∃ j:Nat,t=.int .i64 j∧j≤n∧Hid (Ext w4 wr)) (fun t _=>n - (intOf t).toNat)
 case atStart=>exact ⟨0,rfl,Nat.zero_le _,X5⟩
 case round=>
  clear X5
  obtain ⟨j,rfl,hj,hX⟩:=hrel
  obtain ⟨w5',hw5'⟩:∃ w0:World,w0=wr:=⟨_,rfl⟩
  subst hw5'
  by_cases hjn:j < n
  ·have hd:decide ((j:Int) < (n:Int))=true:=decide_eq_true (by omega)
   have HJ1:IntKind.i64.wrap ((j:Int)+1)=((j+1:Nat):Int):=by have:=HLN.out;rw [IntKind.wrap_i64];omega
   have HJ2:(0:Int)≤(j:Int)∧(j:Int) < (n:Int):=⟨by omega,by omega⟩
   have hjl:j < l.length:=by rw [HNL.out];exact hjn
   obtain ⟨bT,oT,rfl⟩:=HR4.out.some_at hjl
   obtain ⟨bU,oU,rfl⟩:=HRW4.out.some_at hjl
   obtain ⟨sx,ax,lx,mx,ay,ly,my,hB4,hQ4⟩:=HR4.out.tm j hjl
   obtain ⟨sz,az,lz,mz,au,lu,mu,hB5,hQ5⟩:=HRW4.out.tm j hjl
   obtain ⟨u0,u1,u2,u3⟩:=hB4.ext hX.out
   obtain ⟨z0,z1,z2,z3⟩:=hB5.ext hX.out
   rw [gt_lt hjl] at u0 hQ4 z0 hQ5
   have HSq:=Lib.hid (HSZ.out _ (List.getElem_mem hjl))
   obtain ⟨t,hte⟩:∃ t,l[j]=t:=⟨_,rfl⟩
   rw [hte] at u0 hQ4 z0 hQ5 HSq
   have HCM:Hid (∀ w',Ext w4 w'→Calls Tryz.prog 54 #[.agg #[.bool sx,.slice ax lx mx,.slice ay ly my],.agg #[.bool sz,.slice az lz mz,.slice au lu mu]] w' (Gives w' fun v' _=>v'=.int .i64 0)):=fun w' x=>by
    have h:=rcmp_any (hQ4.rd.ext x) (hQ5.rd.ext x) (HSq.out.le (by decide)) (HSq.out.le (by decide))
    rw [Rat.sub_self] at h
    exact h
   generalize t.1=tv at*
   clear hB4 hB5 hQ4 hQ5 hte hjl
   obtain ⟨w6,hw6,b6,c6,-,-⟩:=bx1 w5' [.int .i64 tv,.bool sx,.slice ax lx mx,.slice ay ly my] 90
   have HW:=Lib.hid hw6
   have C6:=Lib.hid c6
   have B6:=Lib.hid b6
   clear hw6 c6 b6
   go_upto_region 7 with (fail)
   rw [← HW.out]
   have y0:=Ext.cell B6.out z0
   have y1:=Ext.cell B6.out z1
   have y2:=Ext.cell B6.out z2
   have y3:=Ext.cell B6.out z3
   clear HW u0 u1 u2 u3 z0 z1 z2 z3
   have X46:=Lib.hid (Ext.trans hX.out B6.out)
   obtain ⟨k0,k1,k2,k3,k4⟩:=(C14.out.ext X46.out).c5
   obtain ⟨w7,hw7,b7,c7,-,-⟩:=bx1 w6 [.int .i64 tv,.bool sz,.slice az lz mz,.slice au lu mu] 90
   have HW:=Lib.hid hw7
   have C7:=Lib.hid c7
   have B7:=Lib.hid b7
   clear hw7 c7 b7
   go_upto_region 8 with (fail)
   rw [← HW.out]
   clear HW k0 k1 k2 k3 k4 y0 y1 y2 y3
   obtain ⟨g0,g1,g2,g3⟩:=(C6.out.ext B7.out).c4
   obtain ⟨f0,f1,f2,f3⟩:=C7.out.c4
   have X47:=Lib.hid (Ext.trans X46.out B7.out)
   go_wp2_with (go_at_call 54;refine (HCM.out _ X47.out).mono ?_;rintro e w8 ⟨_,rfl,X8,rfl⟩;have X8:=Lib.hid X8)
   go_roundw
   case rel=>exact ⟨j+1,by go_num,by omega,Ext.trans X47.out X8.out⟩
   case measure=>simp [intOf] <;> omega
  ·obtain rfl:j=n:=by omega
   have hd:decide ((j:Int) < (j:Int))=false:=decide_eq_false (by omega)
   go_wp2_with fail
   exact hR.out _ _ (Gives.mk (Ext.trans XB4.out hX.out) rfl)
open Go.RowKit Go.Att

set_option maxRecDepth 100000 in
set_option linter.unusedSimpArgs false in
set_option maxHeartbeats 8000000 in
theorem greatp_any {α:Type} {A:World→Value→α→Prop} {w:World} {vp:Value} {p:Pq α} (hp:RdPq A (RowT 1 IntT) w vp p) (hA:p.2.1.length≤1000) (hN:p.2.2.length≤1000):
  Calls Tryz.prog 14 #[vp] w (Gives w fun v' _=>∃ b:Bool,v'=.bool b∧(b=false↔p.1.1≤400∧p.1.2≤1000∧∀ c∈p.2.2,c.length≤64)):=by
 refine via fun R hR=>?_
 obtain ⟨a,c,a',c',rfl,-,hC⟩:=hp
 obtain ⟨⟨pR,pB⟩,ats,cls⟩:=p
 dsimp only at*
 have HC:=Lib.hid hC
 clear hC
 generalize ats.length=na at*
 obtain ⟨n,hn⟩:∃ n,cls.length=n:=⟨_,rfl⟩
 have HNL:=Lib.hid hn
 rw [hn] at hN HC ⊢
 clear hn
 have e1:decide ((na:Int) > 2000)=false:=decide_eq_false (by omega)
 have e1':decide (2000 < (na:Int))=false:=decide_eq_false (by omega)
 have e2:decide ((n:Int) > 4000)=false:=decide_eq_false (by omega)
 have e2':decide (4000 < (n:Int))=false:=decide_eq_false (by omega)
 have HN:=Lib.hid hN
 clear hA hN
 obtain ⟨w1,hw1,b1,c1,-,-⟩:=bx1 w [.int .i64 pR,.int .i64 pB,.slice a na c,.slice a' n c'] 34
 have HW:=Lib.hid hw1
 have C1:=Lib.hid c1
 clear hw1 c1
 go_enter Tryz.func14,Tryz.ntmps14
 go_upto_region 1 with (fail)
 rw [← HW.out]
 clear HW
 obtain ⟨k0,k1,k2,k3⟩:=C1.out.c4
 by_cases hR4:400 < pR
 ·have d1:decide (pR > 400)=true:=decide_eq_true hR4
  have d1':decide (400 < pR)=true:=decide_eq_true hR4
  go_wp2_with fail
  exact hR.out _ _ (Gives.mk b1 ⟨true,rfl,fun h=>Bool.noConfusion h,fun h=>absurd h.1 (by omega)⟩)
 ·have d1:decide (pR > 400)=false:=decide_eq_false hR4
  have d1':decide (400 < pR)=false:=decide_eq_false hR4
  by_cases hB4:1000 < pB
  ·have d2:decide (pB > 1000)=true:=decide_eq_true hB4
   have d2':decide (1000 < pB)=true:=decide_eq_true hB4
   go_wp2_with fail
   exact hR.out _ _ (Gives.mk b1 ⟨true,rfl,fun h=>Bool.noConfusion h,fun h=>absurd h.2.1 (by omega)⟩)
  ·have d2:decide (pB > 1000)=false:=decide_eq_false hB4
   have d2':decide (1000 < pB)=false:=decide_eq_false hB4
   have H4:Hid (pR≤400∧pB≤1000):=⟨by omega,by omega⟩
   clear hR4 hB4
   go_upto_region 4 with fail
   go_loopw [28] (fun t wr=>∃ j:Nat,t=.int .i64 j∧j≤n∧wr=w1∧Hid (∀ i (h:i < cls.length),i < j→cls[i].length≤64)) (fun t _=>n - (intOf t).toNat)
   case atStart=>exact ⟨0,rfl,Nat.zero_le _,rfl,fun i _ h=>absurd h (Nat.not_lt_zero _)⟩
   case round=>
    obtain ⟨j,rfl,hj,hX,hP⟩:=hrel
    subst hX
    by_cases hjn:j < n
    ·have hd:decide ((j:Int) < (n:Int))=true:=decide_eq_true (by omega)
     have HJ2:(0:Int)≤(j:Int)∧(j:Int) < (n:Int):=⟨by omega,by omega⟩
     have HJ1:IntKind.i64.wrap ((j:Int)+1)=((j+1:Nat):Int):=by have:=HN.out;rw [IntKind.wrap_i64];omega
     have hjl:j < cls.length:=by rw [HNL.out];exact hjn
     obtain ⟨bx,ox,x,m,he,hc,hr⟩:=RdRow.rowI (HC.out.ext (fun h x=>RowT.ext h IntT.ext x) b1) j hjl
     subst he
     have HGO:Hid (cls[j].length≤64→∀ i (h:i < cls.length),i < j+1→cls[i].length≤64):=fun g i h hi=>by
      by_cases he:i=j
      ·subst he;exact g
      ·exact hP.out i h (by omega)
     have HBAD:Hid (64 < cls[j].length→¬ ∀ c∈cls,c.length≤64):=fun g h=>by have:=h _ (List.getElem_mem hjl);omega
     generalize cls[j].length=y at*
     clear hr hjl hP
     by_cases h64:64 < y
     ·have hg:decide ((y:Int) > 64)=true:=decide_eq_true (by omega)
      have hg':decide (64 < (y:Int))=true:=decide_eq_true (by omega)
      go_wp2_with fail
      exact hR.out _ _ (Gives.mk b1 ⟨true,rfl,fun h=>Bool.noConfusion h,fun h=>absurd h.2.2 (HBAD.out (by omega))⟩)
     ·have hg:decide ((y:Int) > 64)=false:=decide_eq_false (by omega)
      have hg':decide (64 < (y:Int))=false:=decide_eq_false (by omega)
      have HG:=Lib.hid (HGO.out (by omega))
      clear HGO HBAD h64
      go_wp2_with fail
      go_roundw
      case rel=>exact ⟨j+1,by go_num,by omega,by first | rfl | trivial,HG.out⟩
      case measure=>simp [intOf] <;> omega
    ·obtain rfl:j=n:=by omega
     have hd:decide ((j:Int) < (j:Int))=false:=decide_eq_false (by omega)
     have HALL:Hid (∀ c∈cls,c.length≤64):=fun c hc=>by
      obtain ⟨i,hi,rfl⟩:=List.getElem_of_mem hc
      exact hP.out i hi (by rw [← HNL.out];exact hi)
     clear hP
     go_wp2_with fail
     exact hR.out _ _ (Gives.mk b1 ⟨false,rfl,fun _=>⟨H4.out.1,H4.out.2,HALL.out⟩,fun _=>rfl⟩)
open Go.RowKit Go.Att

set_option linter.unusedSimpArgs false in
set_option maxHeartbeats 4000000 in
set_option maxRecDepth 100000 in
theorem insidep_any {α:Type} {A:World→Value→α→Prop} {C:World→Value→List Int→Prop} {w:World} {vp v:Value} {p:Pq α} {q:AT} (hp:RdPq A C w vp p) (hv:OwnA w v q) (hn:q.1.1.length≤1000):
  Calls Tryz.prog 16 #[vp,v] w (Gives w fun v' _=>∃ b:Bool,v'=.bool b∧(b=true↔∀ t∈q.1.1,0≤t.1∧t.1 < p.1.1)):=by
 refine via fun R hR=>?_
 obtain ⟨a',c',a'',c'',rfl,-,-⟩:=hp
 obtain ⟨s0,x0,y0,z0,rfl,hE⟩:=hv
 obtain ⟨a,k,s,b,m,d,b',m',d',he,hlk,hkm,HRW,HRC⟩:=hE.rd.op
 simp only [Value.agg.injEq,Array.mk.injEq,List.cons.injEq,and_true] at he
 obtain ⟨rfl,rfl,rfl,rfl⟩:=he
 clear hE HRC
 obtain ⟨⟨pR,pB⟩,ats,cls⟩:=p
 obtain ⟨⟨l,cc⟩,op⟩:=q
 dsimp only at*
 generalize ats.length=na at*
 generalize cls.length=nc at*
 have HLN:=Lib.hid hn
 clear hn
 obtain ⟨w1,hw1,b1,c1,c2,-,-,-⟩:=bx2 w [.int .i64 pR,.int .i64 pB,.slice a' na c',.slice a'' nc c''] [.slice a l.length k,.bool s,.slice b m d,.slice b' m' d',.int .i64 op] 34 63
 have HW:=Lib.hid hw1
 have C1:=Lib.hid c1
 have C2:=Lib.hid c2
 clear hw1 c1 c2
 go_enter Tryz.func16,Tryz.ntmps16
 go_upto_region 1 with (fail)
 rw [← HW.out]
 clear HW
 obtain ⟨j0,j1,j2,j3,j4⟩:=C2.out.c5
 go_upto_region 2 with (fail)
 clear j0 j1 j2 j3 j4
 go_loopw [11] (fun t wr=>∃ j:Nat,t=.int .i64 j∧j≤l.length∧Hid (Ext w1 wr)∧Hid (∀ i (h:i < l.length),i < j→0≤(gt l i).1∧(gt l i).1 < pR)) (fun t _=>l.length - (intOf t).toNat)
 case atStart=>exact ⟨0,rfl,Nat.zero_le _,Ext.refl _,fun i _ h=>absurd h (Nat.not_lt_zero _)⟩
 case round=>
  obtain ⟨j,rfl,hj,hx,hP⟩:=hrel
  by_cases hjl:j < l.length
  ·have hd:decide ((j:Int) < (l.length:Int))=true:=decide_eq_true (by omega)
   obtain ⟨bT,oT,rfl⟩:=HRW.out.some_at hjl
   obtain ⟨sx,ax,lx,mx,ay,ly,my,hB4,hQ4⟩:=HRW.out.tm j hjl
   obtain ⟨u0,u1,u2,u3⟩:=hB4.ext (Ext.trans b1 hx.out)
   have hJ1:IntKind.i64.wrap ((j:Int)+1)=((j+1:Nat):Int):=by have:=HLN.out;rw [IntKind.wrap_i64];omega
   have hJ2:(0:Int)≤(j:Int)∧(j:Int) < (l.length:Int):=⟨by omega,by omega⟩
   have HGO:Hid (0≤(gt l j).1→(gt l j).1 < pR→∀ i (h:i < l.length),i < j+1→0≤(gt l i).1∧(gt l i).1 < pR):=fun g1 g2 i h hi=>by
    by_cases he:i=j
    ·subst he;exact ⟨g1,g2⟩
    ·exact hP.out i h (by omega)
   have HBAD:Hid (¬ (0≤(gt l j).1∧(gt l j).1 < pR)→¬ ∀ t∈l,0≤t.1∧t.1 < pR):=fun g h=>g (by rw [gt_lt hjl];exact h _ (List.getElem_mem hjl))
   obtain ⟨y,hy⟩:∃ y,(gt l j).1=y:=⟨_,rfl⟩
   rw [hy] at u0 HGO HBAD
   clear hy hB4 hQ4
   obtain ⟨w4,hw4,b4,c4,-,-⟩:=bx1 wr [.int .i64 y,.bool sx,.slice ax lx mx,.slice ay ly my] 90
   have HW:=Lib.hid hw4
   have C4:=Lib.hid c4
   have X4:=Lib.hid (Ext.trans hx.out b4)
   clear hw4 c4
   go_upto_region 4 with (fail)
   rw [← HW.out]
   clear HW u0 u1 u2 u3
   obtain ⟨u0,u1,u2,u3⟩:=C4.out.c4
   obtain ⟨k0,k1,k2,k3⟩:=(C1.out.ext X4.out).c4
   by_cases h0:y < 0
   ·have d0:decide (y < 0)=true:=decide_eq_true h0
    have HB:=Lib.hid (HBAD.out (by omega))
    go_wp2_with fail
    exact hR.out _ _ (Gives.mk (Ext.trans b1 X4.out) ⟨false,rfl,fun h=>Bool.noConfusion h,fun h=>absurd h HB.out⟩)
   ·have d0:decide (y < 0)=false:=decide_eq_false h0
    by_cases h1:pR≤y
    ·have d1:decide (y ≥ pR)=true:=decide_eq_true h1
     have d1':decide (pR≤y)=true:=decide_eq_true h1
     have HB:=Lib.hid (HBAD.out (by omega))
     go_wp2_with fail
     exact hR.out _ _ (Gives.mk (Ext.trans b1 X4.out) ⟨false,rfl,fun h=>Bool.noConfusion h,fun h=>absurd h HB.out⟩)
    ·have d1:decide (y ≥ pR)=false:=decide_eq_false h1
     have d1':decide (pR≤y)=false:=decide_eq_false h1
     have HG:=Lib.hid (HGO.out (by omega) (by omega))
     clear HGO HBAD h0 h1
     go_wp2_with fail
     go_roundw
     case rel=>exact ⟨j+1,by go_num,by omega,X4.out,HG.out⟩
     case measure=>simp [intOf] <;> omega
  ·obtain rfl:j=l.length:=by omega
   have hd:decide ((l.length:Int) < (l.length:Int))=false:=decide_eq_false (by omega)
   have HALL:Hid (∀ t∈l,0≤t.1∧t.1 < pR):=fun t ht=>by
    obtain ⟨i,hi,rfl⟩:=List.getElem_of_mem ht
    rw [← gt_lt hi]
    exact hP.out i hi hi
   clear hP
   go_wp2_with fail
   exact hR.out _ _ (Gives.mk (Ext.trans b1 hx.out) ⟨true,rfl,fun _=>HALL.out,fun _=>rfl⟩)
open Go.RowKit Go.Att

set_option maxRecDepth 100000 in
set_option linter.unusedSimpArgs false in
set_option maxHeartbeats 8000000 in
theorem known_any {α:Type} {A:World→Value→α→Prop} {C:World→Value→List Int→Prop} {w:World} {vp:Value} {p:Pq α} {l:Int} (hp:RdPq A C w vp p) (hl:In64 l) (hB0:0≤p.1.2) (hB1:p.1.2≤1000) (hA:p.2.1.length≤1000):
  Calls Tryz.prog 17 #[vp,.int .i64 l] w (Gives w fun v' _=>∃ b:Bool,v'=.bool b∧(b=true↔knownL (p.1.2+p.2.1.length) l)):=by
 refine via fun R hR=>?_
 obtain ⟨a,c,a',c',rfl,-,-⟩:=hp
 obtain ⟨⟨pR,pB⟩,ats,cls⟩:=p
 dsimp only at*
 generalize cls.length=nc at*
 generalize ats.length=na at*
 obtain ⟨q,hq0⟩:∃ q:Int,pB+(na:Int)=q:=⟨_,rfl⟩
 have hq:IntKind.i64.wrap (pB+(na:Int))=q:=by rw [IntKind.wrap_i64];omega
 rw [hq0] at hR
 have HI:=Lib.hid hl
 clear hq0 hl hB0 hB1 hA
 obtain ⟨w1,hw1,b1,c1,-,-⟩:=bx1 w [.int .i64 pR,.int .i64 pB,.slice a na c,.slice a' nc c'] 34
 have HW:=Lib.hid hw1
 have C1:=Lib.hid c1
 clear hw1 c1
 go_enter Tryz.func17,Tryz.ntmps17
 go_upto_region 1 with (fail)
 rw [← HW.out]
 clear HW
 obtain ⟨k0,k1,k2,k3⟩:=C1.out.c4
 by_cases h0:l=0
 ·subst h0
  go_wp2_with fail
  exact hR.out _ _ (Gives.mk b1 ⟨false,rfl,fun h=>Bool.noConfusion h,fun h=>absurd rfl h.1⟩)
 ·have e0:(l != 0)=true:=by simp [h0]
  have H0:=Lib.hid h0
  clear h0
  by_cases hm:l = -9223372036854775808
  ·have e1:(l != -9223372036854775808)=false:=by simp [hm]
   have HM:=Lib.hid hm
   clear hm
   go_wp2_with fail
   exact hR.out _ _ (Gives.mk b1 ⟨false,rfl,fun h=>Bool.noConfusion h,fun h=>absurd HM.out h.2.1⟩)
  ·have e1:(l != -9223372036854775808)=true:=by simp [hm]
   have HM:=Lib.hid hm
   obtain ⟨m,hmm⟩:∃ m:Int,-l=m:=⟨_,rfl⟩
   have hneg:IntKind.i64.wrap (-l)=m:=by obtain ⟨g1,g2⟩:=HI.out;rw [IntKind.wrap_i64];omega
   have HMM:=Lib.hid hmm
   clear hm hmm
   obtain ⟨x,hx⟩:∃ x,max l m=x:=⟨_,rfl⟩
   have HX:=Lib.hid hx
   obtain ⟨b,hb⟩:∃ b,decide (x≤q)=b:=⟨_,rfl⟩
   have HB:=Lib.hid hb
   go_wp2_with fail
   refine hR.out _ _ (Gives.mk b1 ⟨b,rfl,?_⟩)
   rw [← HB.out,decide_eq_true_eq,← HX.out]
   have h1:=HMM.out
   have h2:max l m=(l.natAbs:Int):=by rw [Int.max_def];split <;> omega
   rw [h2]
   constructor
   ·intro h;exact ⟨H0.out,HM.out,h⟩
   ·intro h;exact h.2.2
open Go.RowKit Go.Att

set_option maxRecDepth 100000 in
set_option linter.unusedSimpArgs false in
set_option maxHeartbeats 8000000 in
theorem always_any {w:World} {v:Value} {l:List Int} (h:RdRow 1 IntT w v l) (hl:∀ z∈l,In64 z) (hb:l.length≤1000000):
  Calls Tryz.prog 53 #[v] w (Gives w fun v' _=>∃ (b:Bool) (e:Int),v'=.tuple #[.bool b,.int .i64 e]):=by
 refine via fun R hR=>?_
 have HC:=Lib.hid (ccanon_any h hl (by omega))
 have HB:Hid ((cnL l).length≤1000000):=Nat.le_trans (cnL_len l) hb
 clear h hl hb
 go_enter Tryz.func53,Tryz.ntmps53
 go_upto_region 2 with (go_at_call 34;refine HC.out.mono ?_;rintro e w5 ⟨v5,rfl,X5,p5,n5,c5,e5,rfl,G5⟩;have G5:=Lib.hid G5;have X5:=Lib.hid X5)
 rcases G5.out with ⟨rfl,-⟩ | ⟨rfl,hn,-,T5⟩
 ·go_wp2_with fail
  exact hR.out _ _ (Gives.mk X5.out ⟨false,4,rfl⟩)
 ·have HT:=Lib.hid T5.1
  clear G5 T5 HC
  generalize cnL l=x at*
  have HN:=Lib.hid hn
  rw [← hn] at HB
  clear hn
  go_upto_region 5 with fail
  go_loopw [6] (fun t wr=>∃ j:Nat,t=.int .i64 (j+1:Nat)∧Hid (Ext w wr)∧Hid (Ext w5 wr)) (fun t _=>n5+1 - (intOf t).toNat)
  case atStart=>exact ⟨0,rfl,X5.out,Ext.refl _⟩
  case round=>
   obtain ⟨j,rfl,hX,hY⟩:=hrel
   obtain ⟨w1,hw1⟩:∃ w1:World,w1=wr:=⟨_,rfl⟩
   subst hw1
   by_cases hjn:j+1 < n5
   ·have hd:decide (((j+1:Nat):Int) < (n5:Int))=true:=decide_eq_true (by omega)
    have hd':decide ((j:Int)+1 < (n5:Int))=true:=decide_eq_true (by omega)
    have HJ2:(0:Int)≤(j:Int)+1∧(j:Int)+1 < (n5:Int):=⟨by omega,by omega⟩
    have HJ3:(0:Int)≤(j:Int)∧(j:Int) < (n5:Int):=⟨by omega,by omega⟩
    have HJ1:IntKind.i64.wrap ((j:Int)+1+1)=((j+1+1:Nat):Int):=by have:=HB.out;rw [IntKind.wrap_i64];omega
    have HJ4:IntKind.i64.wrap ((j:Int)+1 - 1)=(j:Int):=by have:=HB.out;rw [IntKind.wrap_i64];omega
    have hw0:IntKind.i64.wrap (j:Int)=(j:Int):=by have:=HB.out;rw [IntKind.wrap_i64];omega
    have hjl:j+1 < x.length:=by rw [← HN.out];exact hjn
    have HT':=HT.out.ext (fun h _=>h) hY.out
    obtain ⟨b,off,he⟩:=HT'.some_atI hjl
    subst he
    have hc:=HT'.int (j+1) hjl
    have hc2:=HT'.int j (by omega)
    generalize x[j+1]=z1 at*
    generalize x[j]=z0 at*
    have CA:Hid (Bo w1 b (off+(j+1)) [.int .i64 z1]):=Bo.one hc
    have CB:Hid (Bo w1 b (off+j) [.int .i64 z0]):=Bo.one hc2
    clear hjl HT' hc hc2
    obtain ⟨ng,hng⟩:∃ u,IntKind.i64.wrap (-z0)=u:=⟨_,rfl⟩
    go_upto_region 7 with fail
    have b2:=drew_ext w1
    have XE:=b2
    refine wp_region_noPanic ?_
    refine wp_region_held_drew (S:=fun w'=>(w'.cell? ⟨b,off+(j+1),none⟩=some (.int .i64 z1))∧(w'.cell? ⟨b,off+j,none⟩=some (.int .i64 z0))) (by kernel_rfl) (⟨(CA.out.ext XE).c1,(CB.out.ext XE).c1⟩) (fun hHeld=>?_)
    refine tkH 0 hHeld ?_
    simp only [jP,jA,jB,jC,jD,jE,jF]
    refine tkH 1 hHeld ?_
    simp only [jP,jA,jB,jC,jD,jE,jF]
    refine tkH 2 hHeld ?_
    simp only [jP,jA,jB,jC,jD,jE,jF]
    refine tkH 3 hHeld ?_
    simp only [jP,jA,jB,jC,jD,jE,jF]
    refine tkH 4 hHeld ?_
    simp only [jP,jA,jB,jC,jD,jE,jF]
    refine tkH 5 hHeld ?_
    simp only [jP,jA,jB,jC,jD,jE,jF]
    refine tkH 6 hHeld ?_
    simp only [jP,jA,jB,jC,jD,jE,jF]
    refine tkH 7 hHeld ?_
    simp only [jP,jA,jB,jC,jD,jE,jF]
    refine tkH 8 hHeld ?_
    simp only [jP,jA,jB,jC,jD,jE,jF]
    refine tkH 9 hHeld ?_
    simp only [jP,jA,jB,jC,jD,jE,jF]
    refine tkH 10 hHeld ?_
    simp only [jP,jA,jB,jC,jD,jE,jF]
    refine wpAnyH_done (by kernel_rfl) ?_ _
    refine NoPanic.normal ?_
    cases hb:(z1 == ng) with
    | true=>
     go_wp2_with fail
     exact hR.out _ _ (Gives.mk (Ext.trans hX.out XE) ⟨true,0,rfl⟩)
    | false=>
     go_wp2_with fail
     go_roundw
     case rel=>exact ⟨j+1,by go_num,Ext.trans hX.out XE,Ext.trans hY.out XE⟩
     case measure=>simp [intOf] <;> omega
   ·have hd:decide (((j+1:Nat):Int) < (n5:Int))=false:=decide_eq_false (by omega)
    have hd':decide ((j:Int)+1 < (n5:Int))=false:=decide_eq_false (by omega)
    go_wp2_with fail
    exact hR.out _ _ (Gives.mk hX.out ⟨false,0,rfl⟩)
end Go.Proofs.YtdooldpgnjmpfaaGreatDoor

namespace Go.Att
open Go.RowKit
theorem RdRow.intAt {w:World} {a:Option Addr} {n c:Nat} {l:List Int} (h:RdRow 1 IntT w (.slice a n c) l) (i:Nat) (hi:i < l.length):∃ b off,a=some ⟨b,off,none⟩∧w.cell? ⟨b,off+i,none⟩=some (.int .i64 l[i]):=by
 obtain ⟨b1,o1,cs,he,hl,hT,hc⟩:=h.at (by decide) i hi
 have he2:cs=[.int .i64 l[i]]:=by
  have h2:Value.agg cs.toArray=.agg #[.int .i64 l[i]]:=hT
  simpa using h2
 subst he2
 exact ⟨b1,o1,he,by simpa using hc 0 (by decide)⟩
end Go.Att
namespace Go.Proofs.YtdooldpgnjmpfaaGreatDoor
open Go.RowKit Go.Att

def TOk (B:Int) (m:Nat) (z:Int):Prop:=z=1099511627776∨z = -1099511627776∨B < z∧z≤B+m
def VOk (B:Int) (m:Nat) (z:Int):Prop:=z=1099511627776∨z = -1099511627776∨0 < z∧z≤B+m
def ZOk (B:Int) (m:Nat) (z:Int):Prop:=z=1099511627776∨z = -1099511627776∨z≠0∧(z.natAbs:Int)≤B+m
set_option maxRecDepth 100000 in
set_option linter.unusedSimpArgs false in
set_option maxHeartbeats 20000000 in
theorem renamed_any {w:World} {va vc:Value} {B:Int} {tv c:List Int} {m:Nat} (ht:RdRow 1 IntT w va tv) (hc:RdRow 1 IntT w vc c) (hB0:0≤B) (hB1:B≤1000) (hm:m≤1000) (hto:∀ z∈tv,TOk B m z) (hk:∀ l∈c,knownL (B+tv.length) l) (hI:∀ l∈c,In64 l) (hl:c.length≤64) (hn:tv.length≤1000):
  Calls Tryz.prog 31 #[.int .i64 B,va,vc] w (Gives w fun v' w'=>∃ p n k b,v'=.tuple #[.slice p n k,.bool b]∧(b=true→∃ r,n=r.length∧TyRow 1 IntT 3 w' (.slice p n k) r∧GoodC (B+m) r)):=by
 refine via fun R hR=>?_
 obtain ⟨aa,ka,rfl,hka,hma⟩:=ht.shape
 obtain ⟨ac,kc,rfl,hkc,hmc⟩:=hc.shape
 have HT:=Lib.hid ht
 have HC:=Lib.hid hc
 have HTO:=Lib.hid hto
 have HK:=Lib.hid hk
 have HI:=Lib.hid hI
 have HB:Hid (0≤B∧B≤1000∧m≤1000):=⟨hB0,hB1,hm⟩
 unfold maxLen at hma hmc
 obtain ⟨n,hnc⟩:∃ n,c.length=n:=⟨_,rfl⟩
 have HNC:=Lib.hid hnc
 obtain ⟨nt,hnt⟩:∃ n,tv.length=n:=⟨_,rfl⟩
 have HNT:=Lib.hid hnt
 rw [hnc] at HC hl ⊢
 rw [hnt] at HT HK hn ⊢
 clear ht hc hto hk hI hB0 hB1 hm hnc hnt hka hma hkc hmc
 go_enter Tryz.func31,Tryz.ntmps31
 go_upto_region 3 with fail
 go_loopw [8,17] (fun o t wr=>∃ (j:Nat) (N:List Int),t=.int .i64 j∧j≤n∧Hid (Ext w wr)∧Hid (OwnRow 1 IntT 3 w.heap.size wr o N)∧Hid (N.length≤j)∧Hid (∀ z∈N,z≠0∧(z.natAbs:Int)≤B+m)) (fun _ t _=>n - (intOf t).toNat)
 case atStart=>exact ⟨0,[],rfl,Nat.zero_le _,Lib.hid (Ext.alloc _ _),Lib.hid (OwnRow.nilLit _ (Nat.le_refl _)),Lib.hid (Nat.le_refl _),Lib.hid fun z h=>by cases h⟩
 case round=>
  obtain ⟨j,N,rfl,hj,hX,hO,hLn,hN⟩:=hrel
  obtain ⟨w3,hw3⟩:∃ w0:World,w0=wr:=⟨_,rfl⟩
  subst hw3
  by_cases hjn:j < n
  ·have hd:decide ((j:Int) < (n:Int))=true:=decide_eq_true (by omega)
   have HJ1:IntKind.i64.wrap ((j:Int)+1)=((j+1:Nat):Int):=by rw [IntKind.wrap_i64];omega
   have HJ2:(0:Int)≤(j:Int)∧(j:Int) < (n:Int):=⟨by omega,by omega⟩
   have hjl:j < c.length:=by rw [HNC.out];exact hjn
   obtain ⟨b,off,he,hce⟩:=(HC.out.ext IntT.ext hX.out).intAt j hjl
   subst he
   have HKL:=Lib.hid (HK.out _ (List.getElem_mem hjl))
   have HIL:=Lib.hid (HI.out _ (List.getElem_mem hjl))
   obtain ⟨l,hle⟩:∃ l,c[j]=l:=⟨_,rfl⟩
   rw [hle] at hce HKL HIL
   clear hle hjl
   obtain ⟨mm,hmm⟩:∃ mm:Int,-l=mm:=⟨_,rfl⟩
   have hneg:IntKind.i64.wrap (-l)=mm:=by obtain ⟨g1,g2⟩:=HIL.out;have:=HKL.out.2.1;rw [IntKind.wrap_i64];omega
   obtain ⟨v,hv⟩:∃ v:Nat,l.natAbs=v:=⟨_,rfl⟩
   have hmax:max l mm=(v:Int):=by rw [Int.max_def];split <;> omega
   have HVV:Hid (0 < v∧(v:Int)≤B+nt):=by have h1:=HKL.out.1;have h2:=HKL.out.2.2;exact ⟨by omega,by omega⟩
   have HNEG:Hid (l < 0→∀ y:Int,VOk B m y→ZOk B m (-y)):=fun _ y hy=>by
    rcases hy with rfl | rfl | ⟨h1,h2⟩
    ·exact .inr (.inl rfl)
    ·exact .inl rfl
    ·exact .inr (.inr ⟨by omega,by omega⟩)
   have HPOS:Hid (∀ y:Int,VOk B m y→ZOk B m y):=fun y hy=>by
    rcases hy with rfl | rfl | ⟨h1,h2⟩
    ·exact .inl rfl
    ·exact .inr (.inl rfl)
    ·exact .inr (.inr ⟨by omega,by omega⟩)
   clear hmm hv
   have HNZ:=Lib.hid HKL.out.1
   clear HKL HIL
   go_upto_if 27 with fail
   go_cut [11] (fun s11 wx=>∃ y:Int,s11=.int .i64 y∧wx=w3∧Hid (VOk B m y))
   case first=>
    by_cases hb:B < (v:Int)
    ·have hd2:decide ((v:Int) > B)=true:=decide_eq_true hb
     have hd2':decide (B < (v:Int))=true:=decide_eq_true hb
     obtain ⟨i,hi⟩:∃ i:Nat,(v:Int) - B - 1=(i:Int):=⟨((v:Int) - B - 1).toNat,by omega⟩
     have hi1:IntKind.i64.wrap (IntKind.i64.wrap ((v:Int) - B) - 1)=(i:Int):=by have:=HB.out;have:=HVV.out;rw [IntKind.wrap_i64,IntKind.wrap_i64];omega
     have hi2:wrap64 (wrap64 ((v:Int) - B) - 1)=(i:Int):=by have:=HB.out;have:=HVV.out;unfold wrap64;omega
     have hi3:wrap64 ((v:Int) - B - 1)=(i:Int):=by have:=HB.out;have:=HVV.out;unfold wrap64;omega
     have hil:i < tv.length:=by have:=HVV.out;rw [HNT.out];omega
     obtain ⟨b2,off2,he2,hce2⟩:=(HT.out.ext IntT.ext hX.out).intAt i hil
     subst he2
     have HTY:=Lib.hid (HTO.out _ (List.getElem_mem hil))
     have HJ3:(0:Int)≤(i:Int)∧(i:Int) < (nt:Int):=⟨by omega,by have:=HNT.out;omega⟩
     obtain ⟨y,hy⟩:∃ y,tv[i]=y:=⟨_,rfl⟩
     rw [hy] at hce2 HTY
     clear hy hil hi
     go_wp2_with fail
     go_meet
     refine ⟨y,rfl,rfl,?_⟩
     have hB:=HB.out
     rcases HTY.out with h | h | ⟨h1,h2⟩
     ·exact Lib.hid (.inl h)
     ·exact Lib.hid (.inr (.inl h))
     ·exact Lib.hid (.inr (.inr ⟨by omega,h2⟩))
    ·have hd2:decide ((v:Int) > B)=false:=decide_eq_false hb
     have hd2':decide (B < (v:Int))=false:=decide_eq_false hb
     go_wp2_with fail
     go_meet
     exact ⟨v,rfl,rfl,Lib.hid (.inr (.inr ⟨by have:=HVV.out;omega,by omega⟩))⟩
   case rest=>
    obtain ⟨y,rfl,rfl,hY⟩:=hcut
    go_upto_if 36 with fail
    go_cut [11] (fun s11 wx=>∃ z:Int,s11=.int .i64 z∧wx=wc∧Hid (ZOk B m z))
    case first=>
     by_cases hl0:l < 0
     ·have hd3:decide (l < 0)=true:=decide_eq_true hl0
      have hw:IntKind.i64.wrap (-y) = -y:=by
       have hB:=HB.out
       rw [IntKind.wrap_i64]
       rcases hY.out with h | h | ⟨h1,h2⟩ <;> omega
      have hw2:wrap64 (-y) = -y:=by
       have hB:=HB.out
       unfold wrap64
       rcases hY.out with h | h | ⟨h1,h2⟩ <;> omega
      go_wp2_with fail
      go_meet
      exact ⟨-y,rfl,rfl,Lib.hid (HNEG.out hl0 y hY.out)⟩
     ·have hd3:decide (l < 0)=false:=decide_eq_false hl0
      go_wp2_with fail
      go_meet
      exact ⟨y,rfl,rfl,Lib.hid (HPOS.out y hY.out)⟩
    case rest=>
     obtain ⟨z,rfl,rfl,hZ⟩:=hcut
     by_cases h1:z=1099511627776
     ·subst h1
      go_wp2_with fail
      exact hR.out _ _ (Gives.mk hX.out ⟨_,_,_,false,rfl,fun h=>by cases h⟩)
     ·have e1:(z == 1099511627776)=false:=beq_false_of_ne h1
      have e1':decide (z=1099511627776)=false:=decide_eq_false h1
      by_cases h2:z = -1099511627776
      ·subst h2
       go_wp2_with fail
       go_roundw
       case rel=>exact ⟨j+1,N,by go_num,by omega,hX.out,hO.out,Lib.hid (by have:=hLn.out;omega),hN.out⟩
       case measure=>simp [intOf] <;> omega
      ·have e2:(z == -1099511627776)=false:=beq_false_of_ne h2
       have e2':decide (z = -1099511627776)=false:=decide_eq_false h2
       have HZG:Hid (z≠0∧(z.natAbs:Int)≤B+m):=by
        rcases hZ.out with h | h | h
        ·exact absurd h h1
        ·exact absurd h h2
        ·exact h
       have HLL:Hid (N.length≤64):=by have:=hLn.out;exact Lib.hid (by omega)
       clear h1 h2 hZ
       go_wp2_with (refine build1W etKi (by rfl) (by rfl) (T:=IntT) IntT.ext (by rfl) [.int .i64 z] (fill_i1 ..) rfl (by decide) (y:=z) rfl ?_;intro g8 w8 x8 _ l8;refine append_rowGL etKi (kdI _) (by rfl) _ _ (by rfl) w.heap.size (by rfl) (hO.out.ext IntT.ext x8) (by rfl) l8.rd (by have:=HLL.out;omega) (by unfold maxLen;have:=HLL.out;omega) (Below.size (Ext.trans hX.out x8)) ?_;intro v9 w9 o9 b9 g9 _;have O9:=Lib.hid o9;have X9:=Lib.hid (Below.trans (Ext.trans hX.out x8) b9);clear o9 b9 g9 l8 x8)
       go_roundw
       case rel=>exact ⟨j+1,N ++ [z],by go_num,by omega,X9.out,O9.out,Lib.hid (by have:=hLn.out;rw [List.length_append];simp;omega),Lib.hid fun u hu=>(List.mem_append.1 hu).elim (hN.out u) fun h=>by rw [List.mem_singleton.1 h];exact HZG.out⟩
       case measure=>simp [intOf] <;> omega
  ·obtain rfl:j=n:=by omega
   have hd:decide ((j:Int) < (j:Int))=false:=decide_eq_false (by omega)
   have HIN:Hid (∀ z∈N,In64 z):=fun z hz=>by
    have h1:=(hN.out z hz).2
    have h2:=HB.out
    unfold In64
    omega
   have HLL:Hid (N.length≤64):=by have:=hLn.out;exact Lib.hid (by omega)
   obtain ⟨aN,kN,rfl,-,-⟩:=hO.out.rd.shape
   have HCC:=Lib.hid (ccanon_any hO.out.rd HIN.out (by have:=HLL.out;omega))
   have HGD:Hid ((cnL N).length≤64∧GoodC (B+m) (cnL N)):=by
    have hlen:(cnL N).length≤64:=Nat.le_trans (cnL_len N) HLL.out
    refine ⟨hlen,cnL_idem N,fun l hl=>?_,hlen⟩
    have h1:=hN.out l (mem_cnL.1 hl)
    have h2:=HB.out
    exact ⟨h1.1,by omega,h1.2⟩
   have HINC:Hid (∀ z∈cnL N,In64 z):=fun z hz=>HIN.out z (mem_cnL.1 hz)
   have HNZ:Hid (∀ z∈N,szl z≠0):=fun z hz=>by
    have h1:=hN.out z hz
    have h2:=HB.out
    unfold szl
    split <;> omega
   generalize N.length=nN at*
   go_upto_region 17 with (go_at_call 34;refine HCC.out.mono ?_;rintro e w5 ⟨v5,rfl,X5,p5,n5,c5,e5,rfl,G5⟩;have G5:=Lib.hid G5;have X5:=Lib.hid X5)
   rcases G5.out with ⟨rfl,z,hz,hz0⟩ | ⟨rfl,hn5,-,T5⟩
   ·exact absurd hz0 (HNZ.out z hz)
   ·have HT5:=Lib.hid T5
    have HN5:=Lib.hid hn5
    have HAL:=Lib.hid (always_any T5.1 HINC.out (by have:=HGD.out.1;omega))
    clear T5 G5 HCC HIN HNZ hn5
    go_wp2_with (go_at_call 53;refine HAL.out.mono ?_;rintro e w6 ⟨v6,rfl,X6,b6,e6,rfl⟩;have X6:=Lib.hid X6)
    exact hR.out _ _ (Gives.mk (Ext.trans hX.out (Ext.trans X5.out X6.out)) ⟨_,_,_,_,rfl,fun _=>⟨cnL N,HN5.out,HT5.out.ext IntT.ext X6.out,HGD.out.2⟩⟩)
end Go.Proofs.YtdooldpgnjmpfaaGreatDoor
