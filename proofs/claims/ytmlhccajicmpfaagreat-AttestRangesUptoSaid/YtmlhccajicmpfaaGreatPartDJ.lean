/- A group of texts: PAtomY, SideR, PR16Check -/
import Derived.Test.YtmlhccajicmpfaaGreatSq
import Derived.Test.YtmlhccajicmpfaaGreatPartCH
import Derived.Test.YtmlhccajicmpfaaGreatPartDI
import Derived.Test.YtmlhccajicmpfaaGreatPartAC
import Derived.Test.YtmlhccajicmpfaaGreatPartBJ
import Derived.Test.YtmlhccajicmpfaaGreatPartDC
import Derived.Test.YtmlhccajicmpfaaGreatPartBI
import Derived.Test.YtmlhccajicmpfaaGreatPartBA
set_option maxHeartbeats 40000000
set_option maxRecDepth 100000
set_option linter.unusedSimpArgs false
namespace Go.Proofs.YtmlhccajicmpfaaGreat
open Go.RowKit Go.Att

abbrev OwnB9 (w:World) (v:Value) (p:AT):Prop:=OwnBt 4 173 w v p
theorem told9_any {w:World} {v:Value} {p:AT} (hv:OwnA w v p) (hs:Smx p.1.1 p.1.2):
  Calls Tryz.prog 92 #[v] w (Gives w fun v' w'=>OwnB9 w' v' p):=by
 refine via fun R hR=>?_
 obtain ⟨a,k,s,b,m,d,b',m',d',rfl,HX⟩:=hv.op
 have HTO:Hid (∀ w',Ext w w'→Calls Tryz.prog 124 #[.agg #[.slice a p.1.1.length k,.bool s,.slice b m d,.slice b' m' d']] w' (Gives w' fun v' w'=>OwnY 0 w' v' p.1.1 p.1.2)):=fun w' x=>(told8_any (HX.out.rd.ext x) (fun t ht=>(hs.2.1 t ht).le dC) (hs.2.2.le dC) (by have:=hs.1;omega)).mono fun _ _ ⟨v,e,b,o⟩=>⟨v,e,b,o.mono (Nat.zero_le _)⟩
 clear hv hs HX
 obtain ⟨⟨la,ca⟩,op⟩:=p
 dsimp only at HTO ⊢
 obtain ⟨n,hn⟩:∃ n,la.length=n:=⟨_,rfl⟩
 rw [hn] at HTO ⊢
 clear hn
 obtain ⟨w1,hw1,b1,c1,c2,-,-,-⟩:=bx2 w [.slice a n k,.bool s,.slice b m d,.slice b' m' d',.int .i64 op] [.slice none 0 0,.bool false,.slice none 0 0,.slice none 0 0,.int .i64 0] 144 171
 have HW:=qH hw1
 have C1:=qH c1
 have R2:Hid (Rt w1 (w.heap.size+1) 5 171):=by
  show Rt _ _ _ _
  rw [hw1]
  have:=Rt.new (w.alloc (.cells #[.slice a n k,.bool s,.slice b m d,.slice b' m' d',.int .i64 op] 144)) [.slice none 0 0,.bool false,.slice none 0 0,.slice none 0 0,.int .i64 0] 171
  simpa using this
 clear c1 c2 hw1
 go_enter Tryz.func92,Tryz.ntmps92
 go_upto_region 1 with (fail)
 rw [← HW.out]
 clear HW
 have b2:=drew_ext w1
 have XE:=b2
 refine wp_region_noPanic ?_
 refine wp_region_last_drew (st:=6) (S:=fun w'=>w'.cell? ⟨w.heap.size,0,none⟩=some (.slice a n k)∧w'.cell? ⟨w.heap.size,1,none⟩=some (.bool s)∧w'.cell? ⟨w.heap.size,2,none⟩=some (.slice b m d)∧w'.cell? ⟨w.heap.size,3,none⟩=some (.slice b' m' d')∧w'.cell? ⟨w.heap.size,4,none⟩=some (.int .i64 op)) kR ((C1.out.ext XE).c5) (fun hHeld=>?_)
 refine tkL 0 hHeld ?_
 simp only [jP,jJ]
 refine tkL 1 hHeld ?_
 simp only [jP,jJ]
 refine tkL 3 hHeld ?_
 simp only [jP,jJ]
 refine tkL 4 hHeld ?_
 simp only [jP,jJ]
 refine rdL 2 kR rfl (fun K hK=>?_)
 go_simp
 go_at_call 124;refine (HTO.out _ (eT b1 XE)).mono ?_;rintro e w3 ⟨v3,rfl,b3,o3⟩;have O3:=qH o3;clear o3;(first | have XE:=eT XE b3 | have XE:=eT (eT XE (Ext.alloc _ _)) b3);obtain ⟨a3,k3,s3,d3,m3,e3,d4,m4,e4,rfl,-,-,O4⟩:=OwnEy.op O3.out
 go_wp2_with fail
 refine hK.out _ _ ((C1.out.ext XE).c5) (fun hHeld=>?_)
 clear hK K
 try simp only [jP,jJ]
 refine tkL 5 hHeld ?_
 simp only [jP,jJ]
 obtain ⟨_,_,_,_,_,j0,j1,j2,j3,j4,i0,i1,i2,i3,i4⟩:=(R2.out.ext XE).c5
 refine wpAnyL_ready (rs:=[6]) kR (by simp) ?_
 refine AllReadyL.last (o:=_) rfl (fun K hK=>?_)
 go_simp
 refine hK.out _ _ ?_
 clear hK K
 try simp only [jP,jJ]
 refine wpAnyL_done kR ?_ _
 refine NoPanic.normal ?_
 go_wp2_with fail
 refine bodyPost_ret (v:=.agg #[.slice a3 la.length k3,.bool s3,.slice d3 m3 e3,.slice d4 m4 e4,.int .i64 op]) (by simp [results,Tryz.results92,go_sem,j0,j1,j2,j3,j4]) rfl ?_
 exact hR.out _ _ (Gives.mk (put5_below (eT b1 XE) oM _ _ _ _ _) ⟨_,_,_,_,rfl,O4.out.putT (R2.out.ext XE) dC dC 0 [_,_,_,_,_]⟩)
end Go.Proofs.YtmlhccajicmpfaaGreat

namespace Go.Att
open Go.RowKit
theorem OwnE.fstS {e:TypeId} {B:Nat} {w:World} {x y z x' y' z':Value} {a b:Rat} (h:OwnE e B w (.agg #[x,y,z,x',y',z']) a b):OwnP e B w (.agg #[x,y,z]) a:=by
 obtain ⟨n,d,m,c,he,h1,h2,-,-⟩:=h
 simp only [Value.agg.injEq,Array.mk.injEq,List.cons.injEq,and_true] at he
 obtain ⟨rfl,rfl,rfl,-,-,-⟩:=he
 exact ⟨_,_,rfl,h1,h2⟩
theorem OwnE.sndS {e:TypeId} {B:Nat} {w:World} {x y z x' y' z':Value} {a b:Rat} (h:OwnE e B w (.agg #[x,y,z,x',y',z']) a b):OwnP e B w (.agg #[x',y',z']) b:=by
 obtain ⟨n,d,m,c,he,-,-,h1,h2⟩:=h
 simp only [Value.agg.injEq,Array.mk.injEq,List.cons.injEq,and_true] at he
 obtain ⟨-,-,-,rfl,rfl,rfl⟩:=he
 exact ⟨_,_,rfl,h1,h2⟩
theorem RdRow.sq {e:TypeId} {w:World} {a:Option Addr} {n c:Nat} {l:List (Rat × Rat)} (h:RdRow 6 (OwnEp e) w (.slice a n c) l) (i:Nat) (hi:i < l.length):
  ∃ b off s x k m x' k' m' t y q r y' q' r',a=some ⟨b,off,none⟩∧Bo w b (off+i*6) [.bool s,.slice x k m,.slice x' k' m',.bool t,.slice y q r,.slice y' q' r']∧OwnP e 0 w (.agg #[.bool s,.slice x k m,.slice x' k' m']) l[i].1∧OwnP e 0 w (.agg #[.bool t,.slice y q r,.slice y' q' r']) l[i].2:=by
 obtain ⟨b1,o1,cs,he,hl,hT,hc⟩:=h.at dC i hi
 obtain ⟨s,x,k,m,x',k',m',t,y,q,r,y',q',r',hv,hO⟩:=OwnE.op hT
 have hcs:cs=[.bool s,.slice x k m,.slice x' k' m',.bool t,.slice y q r,.slice y' q' r']:=by simpa using hv
 subst hcs
 exact ⟨b1,o1,s,x,k,m,x',k',m',t,y,q,r,y',q',r',he,Bo.of hc,hO.out.fstS,hO.out.sndS⟩
end Go.Att

namespace Go.Proofs.YtmlhccajicmpfaaGreat
open Go.RowKit Go.Att

abbrev TnS (w:World) (v:Value) (p:Rat × Rat):Prop:=OwnEp 4 w v p
theorem tns_ext {w w':World} {v:Value} {a:Rat × Rat} (h:TnS w v a) (x:Ext w w'):TnS w' v a:=OwnEp.ext h x
theorem r16check_any {w:World} {v:Value} {p:Pr (Rat × Rat) AT} {i o:Int} (hv:RdPr TnS OwnB9 w v p) (hs:∀ s∈p.1,Sb 50000 s.1∧Sb 50000 s.2) (hn:p.1.length≤1000∧p.2.1.length≤1000) (ht:∀ a∈p.2.1,a.1.1.length≤1000) (hio:1≤i∧i≤32∧1≤o∧o≤32):
  Calls Tryz.prog 31 #[v,.int .i64 i,.int .i64 o] w (Gives w fun v' _=>∃ z:Int,v'=.int .i64 z∧(z=0→PrOk p i o)):=by
 refine via fun R hR=>?_
 obtain ⟨a,c,a',c',x,k,rfl,hB,hA,hF⟩:=hv.op
 have HBX:=qH hB
 have HAT:=qH hA
 have HSZ:=qH hs
 have HTL:=qH ht
 have HN:=qH hn
 have HIO:=qH hio
 obtain ⟨w1,hw1,b1,c1,-,-⟩:=bx1 w [.slice a p.1.length c,.slice a' p.2.1.length c',.int .i64 p.2.2.k,.int .i64 p.2.2.a,.slice x p.2.2.sub.length k] 67
 have HW:=qH hw1
 have C1:=qH c1
 have HC:=qH (check11_any (k:=p.2.1.length) (hF.ext b1))
 obtain ⟨j0,j1,j2,j3,j4⟩:=c1.c5
 have d2:decide (i < 1)=false:=decide_eq_false oM
 have d3:decide (o < 1)=false:=decide_eq_false oM
 have d4:decide (i > 32)=false:=decide_eq_false oM
 have d4':decide (32 < i)=false:=decide_eq_false oM
 have d5:decide (o > 32)=false:=decide_eq_false oM
 have d5':decide (32 < o)=false:=decide_eq_false oM
 have dw:IntKind.i64.wrap (i+o)=i+o:=by rw [IntKind.wrap_i64];omega
 have HCK:Hid (chkG p.2.2 p.2.1.length=0→chkF p.2.2 p.2.1.length=0):=fun h=>by rw [chk_same];exact h
 clear hw1 c1 hv hs ht hn hio hB hA hF
 generalize p.2.2.k=fk at*
 generalize p.2.2.a=fa at*
 generalize p.2.2.sub.length=fn at*
 obtain ⟨bx,ats,fm⟩:=p
 dsimp only at*
 obtain ⟨na,hna⟩:∃ n,ats.length=n:=⟨_,rfl⟩
 have HNA:=qH hna
 rw [hna] at HC HCK HAT HN HW C1 ⊢
 obtain ⟨m,hm⟩:∃ m,bx.length=m:=⟨_,rfl⟩
 have HML:=qH hm
 rw [hm] at HBX C1 HW j0 HN ⊢
 rw [hna] at j1
 clear hm hna
 generalize chkG fm na=z at*
 go_enter Tryz.func31,Tryz.ntmps31
 go_upto_region 1 with (fail)
 rw [← HW.out]
 clear HW
 go_wp2_with fail
 refine HC.out.mono ?_
 rintro e w3 ⟨_,rfl,b3,rfl⟩
 have b03:=eT b1 b3
 clear j0 j1 j2 j3 j4 HC
 obtain ⟨j0,j1,j2,j3,j4⟩:=(C1.out.ext b3).c5
 by_cases h200:200 < na
 ·have e1:decide ((na:Int) > 200)=true:=decide_eq_true oM
  have e1':decide ((200:Int) < (na:Int))=true:=decide_eq_true oM
  go_wp2_with fail
  exact hR.out _ _ (Gives.mk b03 ⟨_,rfl,fun h=>by omega⟩)
 have e1:decide ((na:Int) > 200)=false:=decide_eq_false oM
 have e1':decide ((200:Int) < (na:Int))=false:=decide_eq_false oM
 have HNN:Hid (na≤200):=by show _≤_;omega
 clear h200
 by_cases hz2:z=2
 ·subst hz2
  go_wp2_with fail
  exact hR.out _ _ (Gives.mk b03 ⟨_,rfl,fun h=>by omega⟩)
 have e2:(z == 2)=false:=by simpa using hz2
 by_cases hz0:z=0
 ·subst hz0
  have HCK0:=qH (HCK.out rfl)
  have e3:((0:Int) != 0)=false:=rfl
  by_cases hmi:(m:Int)=i
  ·have e4:((m:Int) != i)=false:=bneF hmi
   have HMI:=qH hmi
   clear hmi hz2
   go_wp2_with fail
   clear d2 d3 d4 d4' d5 d5' e1 e1' e2 e3 e4 j0 j1 j2 j3 j4
   go_loopw [56] (fun t wr=>∃ j:Nat,t=.int .i64 j∧j≤m∧Hid (Ext w3 wr)∧Hid (∀ (k:Nat) (h:k < bx.length),k < j→bx[k].1≤bx[k].2)) (fun t _=>m - (intOf t).toNat)
   case atStart=>exact ⟨0,rfl,Nat.zero_le _,Ext.refl _,fun k _ h=>absurd h (Nat.not_lt_zero _)⟩
   case round=>
    obtain ⟨j,rfl,hj,hx,hP⟩:=hrel
    obtain ⟨wo,hwo⟩:∃ w0:World,w0=wr:=⟨_,rfl⟩
    subst hwo
    by_cases hjl:j < m
    ·have hd:=dT ((j:Int) < (m:Int))
     have HJ2:(0:Int)≤(j:Int)∧(j:Int) < (m:Int):=⟨by omega,by omega⟩
     have HJ1:IntKind.i64.wrap ((j:Int)+1)=((j+1:Nat):Int):=by have:=HN.out;rw [IntKind.wrap_i64];omega
     have hjb:j < bx.length:=by rw [HML.out];exact hjl
     have HBX':=HBX.out
     rw [← HML.out] at HBX'
     obtain ⟨bL,oL,s,x0,k0,m0,x1,k1,m1,t,y0,q0,r0,y1,q1,r1,hae,hbo,hq0,hq1⟩:=(HBX'.ext tns_ext (eT b03 hx.out)).sq j hjb
     subst hae
     have HSZ2:=qH (HSZ.out _ (List.getElem_mem hjb))
     have HGO:Hid (bx[j].1≤bx[j].2→∀ (k:Nat) (h:k < bx.length),k < j+1→bx[k].1≤bx[k].2):=fun g k h1 hk=>by
      by_cases he:k=j
      ·subst he;exact g
      exact hP.out k h1 oM
     obtain ⟨e,he⟩:∃ e,bx[j]=e:=⟨_,rfl⟩
     rw [he] at hq0 hq1 HGO HSZ2
     clear he hjb HBX' hP
     obtain ⟨u0,u1,u2,u3,u4,u5⟩:=hbo.c6
     obtain ⟨w4,hw4,b4,c4,-,-⟩:=bx1 wo [.bool s,.slice x0 k0 m0,.slice x1 k1 m1,.bool t,.slice y0 q0 r0,.slice y1 q1 r1] 166
     have HW:=qH hw4
     have C4:=qH c4
     have HCM:=qH (r5cmp_any (hq0.ext b4).rd (hq1.ext b4).rd HSZ2.out.1 HSZ2.out.2)
     have HG:Hid (¬ 0 < (e.1 - e.2).num.sign→e.1≤e.2):=fun h=>by
      rcases (Rat.le_total:e.1≤e.2∨e.2≤e.1) with h1 | h1
      ·exact h1
      rcases Classical.em (e.1=e.2) with h2 | h2
      ·rw [h2];exact Rat.le_refl
      exact absurd (sggt.2 (by grind)) h
     have X4:=qH (eT hx.out b4)
     obtain ⟨z,hz⟩:∃ z,(e.1 - e.2).num.sign=z:=⟨_,rfl⟩
     rw [hz] at HCM HG
     clear hw4 c4 hbo hz HSZ2 hq0 hq1
     go_upto_region 9 with (fail)
     rw [← HW.out]
     clear HW u0 u1 u2 u3 u4 u5
     obtain ⟨u0,u1,u2,u3,u4,u5⟩:=C4.out.c6
     go_wp2_with fail
     refine HCM.out.mono ?_
     rintro e w5 ⟨_,rfl,b5,rfl⟩
     by_cases hz:0 < z
     ·have f1:decide (z > 0)=true:=decide_eq_true hz
      have f1':decide (0 < z)=true:=decide_eq_true hz
      clear hz
      go_wp2_with fail
      exact hR.out _ _ (Gives.mk (eT b03 (eT X4.out b5)) ⟨_,rfl,fun h=>by omega⟩)
     have f1:decide (z > 0)=false:=decide_eq_false hz
     have f1':decide (0 < z)=false:=decide_eq_false hz
     have HNX:=qH (HGO.out (HG.out oM))
     clear hz
     go_wp2_with fail
     go_roundw
     case rel=>exact ⟨j+1,by go_num,by omega,eT X4.out b5,HNX.out⟩
     simp [intOf]<;>omega
    obtain rfl:j=m:=by omega
    have hd:=dF ((j:Int) < (j:Int))
    have HBS:Hid (∀ s∈bx,s.1≤s.2):=fun s hs=>by
     obtain ⟨k,hk,rfl⟩:=List.getElem_of_mem hs
     exact hP.out k hk (by rw [← HML.out];exact hk)
    obtain ⟨j0,j1,j2,j3,j4⟩:=(C1.out.ext (eT b3 hx.out)).c5
    clear hP
    go_wp2_with fail
    clear hd j0 j1 j2 j3 j4
    go_loopw [70] (fun t wr=>∃ q:Nat,t=.int .i64 q∧q≤na∧Hid (Ext wo wr)∧Hid (∀ (k:Nat) (h:k < ats.length),k < q→1≤ats[k].2∧ats[k].2≤3∧∀ t∈ats[k].1.1,0≤t.1∧t.1 < i+o)) (fun t _=>na - (intOf t).toNat)
    case atStart=>exact ⟨0,rfl,Nat.zero_le _,Ext.refl _,fun k _ h=>absurd h (Nat.not_lt_zero _)⟩
    case round=>
     obtain ⟨q,rfl,hq,hx2,hP⟩:=hrel
     obtain ⟨w6,hw6⟩:∃ w0:World,w0=wr:=⟨_,rfl⟩
     subst hw6
     have hxx:=qH (eT hx.out hx2.out)
     by_cases hql:q < na
     ·have hd:=dT ((q:Int) < (na:Int))
      have HJ2:(0:Int)≤(q:Int)∧(q:Int) < (na:Int):=⟨by omega,by omega⟩
      have HJ1:IntKind.i64.wrap ((q:Int)+1)=((q+1:Nat):Int):=by have:=HN.out;rw [IntKind.wrap_i64];omega
      have hjb:q < ats.length:=by rw [HNA.out];exact hql
      have HAT':=HAT.out
      rw [← HNA.out] at HAT'
      obtain ⟨bL,oL,x0,k0,s,y,mm,dd,y',m',d',hae,hbo,hE⟩:=(HAT'.ext OwnBt.ext (eT b03 hxx.out)).btm q hjb
      subst hae
      have HTN:=qH (HTL.out _ (List.getElem_mem hjb))
      have HGO:Hid ((1≤ats[q].2∧ats[q].2≤3)→(∀ t∈ats[q].1.1,0≤t.1∧t.1 < i+o)→∀ (k:Nat) (h:k < ats.length),k < q+1→1≤ats[k].2∧ats[k].2≤3∧∀ t∈ats[k].1.1,0≤t.1∧t.1 < i+o):=fun g1 g2 k h1 hk=>by
       by_cases he:k=q
       ·subst he;exact ⟨g1.1,g1.2,g2⟩
       exact hP.out k h1 oM
      obtain ⟨e,he⟩:∃ e,ats[q]=e:=⟨_,rfl⟩
      rw [he] at hbo hE HGO HTN
      clear he hjb HAT' hP
      obtain ⟨u0,u1,u2,u3,u4⟩:=hbo.c5
      obtain ⟨w4,hw4,b4,c4,-,-⟩:=bx1 w6 [.slice x0 e.1.1.length k0,.bool s,.slice y mm dd,.slice y' m' d',.int .i64 e.2] 171
      have HW:=qH hw4
      have C4:=qH c4
      have X4:=qH (eT hx2.out b4)
      obtain ⟨_,_,_,_,hv,hrow,-⟩:=hE
      have HRW:Hid (RdRow 4 (OwnTp 4) w4 (.slice x0 e.1.1.length k0) e.1.1):=by
       simp only [Value.agg.injEq,Array.mk.injEq,List.cons.injEq,and_true] at hv
       rw [hv.1];exact hrow.rd.ext OwnTp.ext b4
      clear hw4 c4 hbo hrow hv
      obtain ⟨⟨te,ce⟩,op⟩:=e
      dsimp only at*
      obtain ⟨tn,htn⟩:∃ n,te.length=n:=⟨_,rfl⟩
      have HTL2:=qH htn
      rw [htn] at HTN HRW C4 HW u0
      clear htn
      go_upto_region 15 with (fail)
      rw [← HW.out]
      clear HW u0 u1 u2 u3 u4
      obtain ⟨u0,u1,u2,u3,u4⟩:=C4.out.c5
      by_cases ho1:op < 1
      ·have f1:decide (op < 1)=true:=decide_eq_true ho1
       go_wp2_with fail
       exact hR.out _ _ (Gives.mk (eT b03 (eT hx.out X4.out)) ⟨_,rfl,fun h=>by omega⟩)
      have f1:decide (op < 1)=false:=decide_eq_false ho1
      by_cases ho3:3 < op
      ·have f2:decide (op > 3)=true:=decide_eq_true ho3
       have f2':decide (3 < op)=true:=decide_eq_true ho3
       clear ho1 ho3
       go_wp2_with fail
       exact hR.out _ _ (Gives.mk (eT b03 (eT hx.out X4.out)) ⟨_,rfl,fun h=>by omega⟩)
      have f2:decide (op > 3)=false:=decide_eq_false ho3
      have f2':decide (3 < op)=false:=decide_eq_false ho3
      have HOK:Hid (1≤op∧op≤3):=⟨by omega,by omega⟩
      clear ho1 ho3
      go_wp2_with fail
      clear f1 f2 f2' u0 u1 u2 u3 u4
      go_loopw [86] (fun t wr=>∃ r:Nat,t=.int .i64 r∧r≤tn∧Hid (Ext w4 wr)∧Hid (∀ (k:Nat) (h:k < te.length),k < r→0≤te[k].1∧te[k].1 < i+o)) (fun t _=>tn - (intOf t).toNat)
      case atStart=>exact ⟨0,rfl,Nat.zero_le _,Ext.refl _,fun k _ h=>absurd h (Nat.not_lt_zero _)⟩
      case round=>
       obtain ⟨r,rfl,hr,hx7,hQ⟩:=hrel
       obtain ⟨w7,hw7⟩:∃ w0:World,w0=wr:=⟨_,rfl⟩
       subst hw7
       by_cases hrl:r < tn
       ·have hd7:=dT ((r:Int) < (tn:Int))
        have HR2:(0:Int)≤(r:Int)∧(r:Int) < (tn:Int):=⟨by omega,by omega⟩
        have HR1:IntKind.i64.wrap ((r:Int)+1)=((r+1:Nat):Int):=by have:=HTN.out;rw [IntKind.wrap_i64];omega
        have hrt:r < te.length:=by rw [HTL2.out];exact hrl
        have HRW':=HRW.out
        rw [← HTL2.out] at HRW'
        obtain ⟨bV,oV,cs,hae,hcl,hT,hc⟩:=(HRW'.ext OwnTp.ext hx7.out).at dC r hrt
        subst hae
        obtain ⟨sv,av,lv,cv,av',lv',cv',rfl,-⟩:=cells_TP hT
        have hbv:Bo w7 bV (oV+r*4) [.int .i64 te[r].1,.bool sv,.slice av lv cv,.slice av' lv' cv']:=Bo.of hc
        have HGQ:Hid (0≤te[r].1∧te[r].1 < i+o→∀ (k:Nat) (h:k < te.length),k < r+1→0≤te[k].1∧te[k].1 < i+o):=fun g k h1 hk=>by
         by_cases he:k=r
         ·subst he;exact g
         exact hQ.out k h1 oM
        obtain ⟨z,hz⟩:∃ z,te[r].1=z:=⟨_,rfl⟩
        rw [hz] at hbv HGQ
        clear hz hc hT hcl HRW' hrt hQ
        obtain ⟨u0,u1,u2,u3⟩:=hbv.c4
        obtain ⟨w8,hw8,b8,c8,-,-⟩:=bx1 w7 [.int .i64 z,.bool sv,.slice av lv cv,.slice av' lv' cv'] 173
        have HW:=qH hw8
        have C8:=qH c8
        have X8:=qH (eT hx7.out b8)
        clear hw8 c8 hbv
        go_upto_region 20 with (fail)
        rw [← HW.out]
        clear HW u0 u1 u2 u3
        obtain ⟨u0,u1,u2,u3⟩:=C8.out.c4
        by_cases hz0:z < 0
        ·have f1:decide (z < 0)=true:=decide_eq_true hz0
         clear hz0
         go_wp2_with fail
         exact hR.out _ _ (Gives.mk (eT b03 (eT hx.out (eT X4.out X8.out))) ⟨_,rfl,fun h=>by omega⟩)
        have f1:decide (z < 0)=false:=decide_eq_false hz0
        by_cases hz1:i+o≤z
        ·have f2:decide (z ≥ i+o)=true:=decide_eq_true hz1
         have f2':decide (i+o≤z)=true:=decide_eq_true hz1
         clear hz0 hz1
         go_wp2_with fail
         exact hR.out _ _ (Gives.mk (eT b03 (eT hx.out (eT X4.out X8.out))) ⟨_,rfl,fun h=>by omega⟩)
        have f2:decide (z ≥ i+o)=false:=decide_eq_false hz1
        have f2':decide (i+o≤z)=false:=decide_eq_false hz1
        have HNX:=qH (HGQ.out ⟨by omega,by omega⟩)
        clear hz0 hz1
        go_wp2_with fail
        go_roundw
        case rel=>exact ⟨r+1,by go_num,by omega,X8.out,HNX.out⟩
        simp [intOf]<;>omega
       obtain rfl:r=tn:=by omega
       have hd7:=dF ((r:Int) < (r:Int))
       have HNX:=qH (HGO.out HOK.out fun t ht=>by
        obtain ⟨k,hk,rfl⟩:=List.getElem_of_mem ht
        exact hQ.out k hk (by rw [← HTL2.out];exact hk))
       clear hQ
       go_wp2_with fail
       go_roundw
       case rel=>exact ⟨q+1,by go_num,by omega,eT X4.out hx7.out,HNX.out⟩
       simp [intOf]<;>omega
     obtain rfl:q=na:=by omega
     have hd:=dF ((q:Int) < (q:Int))
     have HAS:Hid (∀ a∈ats,1≤a.2∧a.2≤3∧∀ t∈a.1.1,0≤t.1∧t.1 < i+o):=fun a ha=>by
      obtain ⟨k,hk,rfl⟩:=List.getElem_of_mem ha
      exact hP.out k hk (by rw [← HNA.out];exact hk)
     clear hP
     go_wp2_with fail
     refine hR.out _ _ (Gives.mk (eT b03 hxx.out) ⟨_,rfl,fun _=>⟨?_,?_,HIO.out.1,HIO.out.2.1,HIO.out.2.2.1,HIO.out.2.2.2,?_,HBS.out,HAS.out⟩⟩)
     ·rw [HNA.out];exact HCK0.out
     ·rw [HNA.out];exact HNN.out
     rw [HML.out];exact HMI.out
  have e4:((m:Int) != i)=true:=by simpa using hmi
  clear hmi hz2
  go_wp2_with fail
  exact hR.out _ _ (Gives.mk b03 ⟨_,rfl,fun h=>by omega⟩)
 have e3:(z != 0)=true:=by simpa using hz0
 clear hz2 hz0
 go_wp2_with fail
 exact hR.out _ _ (Gives.mk b03 ⟨_,rfl,fun h=>by omega⟩)
end Go.Proofs.YtmlhccajicmpfaaGreat
