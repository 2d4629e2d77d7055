/- A group of texts: Fark, PLinEval, PAtom, PAtom2, PFarkSum, PFarkRef -/
import Derived.Test.YtmlhccajicmpfaaGreatSq
import Derived.Test.YtmlhccajicmpfaaGreatPartAF
import Derived.Test.YtmlhccajicmpfaaGreatPartCG
import Derived.Test.YtmlhccajicmpfaaGreatPartBD
import Derived.Test.YtmlhccajicmpfaaGreatPartBC
import Derived.Test.YtmlhccajicmpfaaGreatPartAJ
import Derived.Test.YtmlhccajicmpfaaGreatPartBA
set_option maxHeartbeats 40000000
set_option maxRecDepth 100000
set_option linter.unusedSimpArgs false
namespace Go.Proofs.YtmlhccajicmpfaaGreat
open Go.RowKit Go.Att

abbrev AZ:=AT × Rat
def fcf:List AZ→Int→Rat
 | [],_=>0
 | z :: l,x=>z.2*cf z.1.1.1 x+fcf l x
def fct:List AZ→Rat
 | []=>0
 | z :: l=>z.2*z.1.1.2+fct l
structure TzP (L:List AT) (P:List Rat):Prop where
 sm:∀ a∈L,Smx a.1.1 a.1.2
 sp:∀ p∈P,Sz 100 p
 sf:∀ j x,Sz 1301 (fcf ((L.zip P).take j) x)
 sc:∀ j,Sz 1301 (fct ((L.zip P).take j))
open Go.RowKit Go.Att

theorem leval_any {w:World} {v vp:Value} {l:TL} {c:Rat} {P:List Rat} (L M:Nat) (hv:RdX w v l c) (hp:RdRow 3 (OwnQp 156) w vp P) (hs:∀ t∈l,Sz L t.2) (hsc:Sz L c) (hP:∀ p∈P,Sz M p) (hl:l.length≤1000) (hL:L+M≤5000):
  Calls Tryz.prog 74 #[v,vp] w (Gives w fun v' w'=>OwnQ 156 0 w' v' (c+tv P l)):=by
 refine via fun R hR=>?_
 have HS:=qH hs
 have HSP:Hid (∀ t∈l,0≤t.1→t.1 < P.length→Sz M (gt P t.1.toNat)):=fun t _ h1 h2=>hP _ (gt_mem' oM)
 have hbig:l.length*(L+M+2)+L≤10000000:=by
  have:=Nat.mul_le_mul hl (show L+M+2≤5002 by omega)
  omega
 have HSZ:Hid (∀ j,j≤l.length→Sz 10000000 (c+tv P (l.take j))):=fun j hj=>(tv_sz c hsc hs hP j hj).le (by
  have:=Nat.mul_le_mul_right (L+M+2) hj
  omega)
 obtain ⟨a,k,s,b,m,d,b',m',d',rfl,hlk,hkm,HRW,HRC⟩:=hv.op
 obtain ⟨ap,kp,rfl,hpk,hpm⟩:=hp.shape
 have HP:=qH hp
 clear hv hs hsc hP hp
 obtain ⟨w1,hw1,b1,c1,c2,r1,r2,z1⟩:=bx2 w [.slice a l.length k,.bool s,.slice b m d,.slice b' m' d'] [.bool false,.slice none 0 0,.slice none 0 0] 142 38
 have HW:=qH hw1
 have C1:=qH c1
 have R2:Hid (Rt w1 (w.heap.size+1) 3 38):=by
  show Rt _ _ _ _
  rw [hw1]
  have:=Rt.new (w.alloc (.cells #[.slice a l.length k,.bool s,.slice b m d,.slice b' m' d'] 142)) [.bool false,.slice none 0 0,.slice none 0 0] 38
  simpa using this
 clear c1 c2 r1 r2 hw1 z1
 go_enter Tryz.func74,Tryz.ntmps74
 go_upto_region 1 with (fail)
 rw [← HW.out]
 clear HW
 obtain ⟨w2,hw2,b2,hC2,-⟩:∃ W,W=w1.alloc (.cells #[.bool s,.slice b m d,.slice b' m' d'] 38)∧Ext w1 W∧Bq 156 38 W w1.heap.size c∧W.heap.size=w1.heap.size+1:=⟨_,rfl,Ext.alloc _ _,Bq.new ((HRC.out).ext b1),by simp⟩
 have HW:=qH hw2
 clear hw2
 obtain ⟨k0,k1,k2,k3⟩:=C1.out.c4
 go_upto_region 2 with (fail)
 rw [← HW.out]
 clear HW k0 k1 k2 k3
 have k0:=(C1.out.ext b2).c1
 go_wp2_with fail
 clear k0
 go_loopw [13] (fun t wr=>∃ j:Nat,t=.int .i64 j∧j≤l.length∧Ext w1 wr∧Hid (Bq 156 38 wr w1.heap.size (c+tv P (l.take j)))) (fun t _=>l.length - (intOf t).toNat)
 case atStart=>exact ⟨0,rfl,Nat.zero_le _,b2,by
  rw [List.take_zero]
  show Hid (Bq _ _ _ _ (c+0))
  rw [Rat.add_zero]
  exact hC2⟩
 case round=>
  clear hC2
  obtain ⟨j,rfl,hj,hx,hC⟩:=hrel
  by_cases hjl:j < l.length
  ·have hd:=dT ((j:Int) < (l.length:Int))
   obtain ⟨bT,oT,rfl⟩:=HRW.out.some_at hjl
   obtain ⟨sx,ax,lx,mx,ay,ly,my,hB4,hQ4⟩:=HRW.out.tm j hjl
   obtain ⟨u0,u1,u2,u3⟩:=hB4.ext (eT b1 hx)
   have hJ1:IntKind.i64.wrap (j:Int)=(j:Int):=by rw [IntKind.wrap_i64];omega
   have hJ2:(0:Int)≤(j:Int)∧(j:Int) < (l.length:Int):=⟨by omega,by omega⟩
   have HSN:=qH (tv_snoc P hjl)
   have HZJ:=qH (HSZ.out j hj)
   have HSQ:Hid (Sz L (gt l j).2∧(0≤(gt l j).1→(gt l j).1 < P.length→Sz M (gt P (gt l j).1.toNat))):=by
    show _∧_
    rw [gt_lt hjl]
    exact ⟨HS.out _ (List.getElem_mem hjl),HSP.out _ (List.getElem_mem hjl)⟩
   obtain ⟨y,hy⟩:∃ y,(gt l j).1=y:=⟨_,rfl⟩
   obtain ⟨q4,hq4⟩:∃ q4,(gt l j).2=q4:=⟨_,rfl⟩
   have HTM:Hid (tmv P (gt l j)=if 0≤y∧y < P.length then q4*gt P y.toNat else 0):=by
    show _=_
    rw [← hy,← hq4];rfl
   rw [hy,hq4] at HSQ
   rw [HTM.out] at HSN
   rw [hy] at u0
   rw [hq4] at hQ4
   have HQ4:=qH (hQ4.ext (eT b1 hx))
   clear hy hq4 hB4 hQ4 HTM
   obtain ⟨w4,hw4,b4,c4,-,-⟩:=bx1 wr [.int .i64 y,.bool sx,.slice ax lx mx,.slice ay ly my] 224
   have HW:=qH hw4
   have C4:=qH c4
   clear hw4 c4
   go_upto_region 5 with (fail)
   rw [← HW.out]
   clear HW u0 u1 u2 u3
   obtain ⟨u0,u1,u2,u3⟩:=C4.out.c4
   have hC4:=qH (hC.out.ext b4)
   have b04:=eT b1 (eT hx b4)
   clear hC
   generalize tv P (l.take j)=tj at*
   by_cases hy0:0≤y
   ·have hdy:decide (0≤y)=true:=decide_eq_true hy0
    by_cases hyP:y < P.length
    ·have hdp:decide (y < (P.length:Int))=true:=decide_eq_true hyP
     obtain ⟨i,rfl⟩:∃ i:Nat,y=i:=⟨y.toNat,by omega⟩
     have hiP:i < P.length:=by omega
     rw [if_pos ⟨hy0,hyP⟩,Int.toNat_natCast] at HSN
     have HSM:=qH (HSQ.out.2 hy0 hyP)
     rw [Int.toNat_natCast] at HSM
     obtain ⟨bP,oP,sp,xp,kp',mp,yp,k2',m2',hae,hbo,hqp⟩:=HP.out.oq i hiP
     subst hae
     have hI1:IntKind.i64.wrap (i:Int)=(i:Int):=by rw [IntKind.wrap_i64];unfold maxLen at hpm;omega
     have hI2:(0:Int)≤(i:Int)∧(i:Int) < (P.length:Int):=⟨by omega,by omega⟩
     have CP:=qH (hbo.ext b04)
     have HQP:=qH (hqp.ext b04)
     generalize gt P i=pv at*
     clear hbo hqp
     go_upto_region 6 with (fail)
     obtain ⟨s0,e1,n1,g1,e2,n2,g2,T1,T2,T3⟩:=hC4.out.op
     clear u0 u1 u2 u3
     have b5:=drew_ext w4
     have XE:=b5
     refine wp_region_noPanic ?_
     refine wp_region_last_drew (st:=10) (S:=fun w'=>(w'.cell? ⟨w1.heap.size,0,none⟩=some (.bool s0)∧w'.cell? ⟨w1.heap.size,1,none⟩=some (.slice e1 n1 g1)∧w'.cell? ⟨w1.heap.size,2,none⟩=some (.slice e2 n2 g2))∧(w'.cell? ⟨wr.heap.size,0,none⟩=some (.int .i64 i)∧w'.cell? ⟨wr.heap.size,1,none⟩=some (.bool sx)∧w'.cell? ⟨wr.heap.size,2,none⟩=some (.slice ax lx mx)∧w'.cell? ⟨wr.heap.size,3,none⟩=some (.slice ay ly my))∧(w'.cell? ⟨bP,oP+i*3,none⟩=some (.bool sp)∧w'.cell? ⟨bP,oP+i*3+1,none⟩=some (.slice xp kp' mp)∧w'.cell? ⟨bP,oP+i*3+2,none⟩=some (.slice yp k2' m2'))) kR (⟨(T1.out.ext XE).c3,(C4.out.ext XE).c4,(CP.out.ext XE).c3⟩) (fun hHeld=>?_)
     refine tkL 0 hHeld ?_
     simp only [jP,jJ]
     refine tkL 1 hHeld ?_
     simp only [jP,jJ]
     refine tkL 2 hHeld ?_
     simp only [jP,jJ]
     refine tkL 3 hHeld ?_
     simp only [jP,jJ]
     refine tkL 4 hHeld ?_
     simp only [jP,jJ]
     refine tkL 5 hHeld ?_
     simp only [jP,jJ]
     refine tkL 6 hHeld ?_
     simp only [jP,jJ]
     refine tkL 7 hHeld ?_
     simp only [jP,jJ]
     refine rdL 8 kR rfl (fun K hK=>?_)
     go_simp
     go_at_call 66;refine (rmul_any ((HQ4.out.ext b4).rd.ext XE) (HQP.out.rd.ext XE) (HSQ.out.1.le oM) (HSM.out.le oM)).mono ?_;rintro e w6 ⟨v6,rfl,b6,o6⟩;have O6:=qH o6;clear o6;(first | have XE:=eT XE b6 | have XE:=eT (eT XE (Ext.alloc _ _)) b6)
     go_wp2_with fail
     refine hK.out _ _ (⟨(T1.out.ext XE).c3,(C4.out.ext XE).c4,(CP.out.ext XE).c3⟩) (fun hHeld=>?_)
     clear hK K
     try simp only [jP,jJ]
     refine rdL 9 kR rfl (fun K hK=>?_)
     go_simp
     go_at_call 65;refine (radd_any (T3.out.rd.ext XE) O6.out.rd HZJ.out ((HSQ.out.1.mul HSM.out).le oM)).mono ?_;rintro e w7 ⟨v7,rfl,b7,o7⟩;have O7:=qH o7;clear o7;(first | have XE:=eT XE b7 | have XE:=eT (eT XE (Ext.alloc _ _)) b7);obtain ⟨_,_,_,_,_,_,_,rfl,P7⟩:=O7.out.op
     go_wp2_with fail
     refine hK.out _ _ (⟨(T1.out.ext XE).c3,(C4.out.ext XE).c4,(CP.out.ext XE).c3⟩) (fun hHeld=>?_)
     clear hK K
     try simp only [jP,jJ]
     obtain ⟨_,_,_,j0,j1,j2,i0,i1,i2⟩:=(T2.out.ext XE).rm.c3
     refine wpAnyL_ready (rs:=[10]) kR (by simp) ?_
     refine AllReadyL.last (o:=_) rfl (fun K hK=>?_)
     go_simp
     refine hK.out _ _ ?_
     clear hK K
     try simp only [jP,jJ]
     refine wpAnyL_done kR ?_ _
     refine NoPanic.normal ?_
     go_wp2_with fail
     go_roundw
     case rel=>exact ⟨j+1,by go_num,by omega,put3_below (eT hx (eT b4 XE)) (Nat.le_refl _) _ _ _,by
      rw [HSN.out,← Rat.add_assoc]
      exact Bq.set (T2.out.ext XE) dC (P7.out.mono (Nat.zero_le _))⟩
     simp [intOf]<;>omega
    have hdp:decide (y < (P.length:Int))=false:=decide_eq_false hyP
    rw [if_neg (fun h=>hyP h.2),Rat.add_zero] at HSN
    go_wp2_with fail
    go_roundw
    case rel=>exact ⟨j+1,by go_num,by omega,eT hx b4,by rw [HSN.out];exact hC4.out⟩
    simp [intOf]<;>omega
   have hdy:decide (0≤y)=false:=decide_eq_false hy0
   rw [if_neg (fun h=>hy0 h.1),Rat.add_zero] at HSN
   go_wp2_with fail
   go_roundw
   case rel=>exact ⟨j+1,by go_num,by omega,eT hx b4,by rw [HSN.out];exact hC4.out⟩
   simp [intOf]<;>omega
  obtain rfl:j=l.length:=by omega
  have hd:=dF ((l.length:Int) < (l.length:Int))
  rw [List.take_length] at hC
  obtain ⟨s0,e1,n1,g1,e2,n2,g2,T1,T2,T3⟩:=hC.out.op
  obtain ⟨k0,k1,k2⟩:=T1.out.c3
  have RR:=qH (R2.out.ext hx)
  obtain ⟨_,_,_,j0,j1,j2,i0,i1,i2⟩:=RR.out.rm.c3
  go_wp2_with fail
  refine bodyPost_ret (v:=.agg #[.bool s0,.slice e1 n1 g1,.slice e2 n2 g2]) (by simp [results,Tryz.results74,go_sem,j0,j1,j2]) rfl ?_
  exact hR.out _ _ (Gives.mk (put3_below (eT b1 hx) (Nat.le_succ _) _ _ _) (T3.out.putT RR.out dC 0 [_,_,_]))
open Go.RowKit Go.Att

abbrev OwnA (w:World) (v:Value) (p:AT):Prop:=OwnAt 156 224 w v p
def chk (op:Int):Int:=if 1≤op∧op≤3 then 0 else 4
theorem check9_any {w:World} {v:Value} {p:AT} (hv:OwnA w v p):
  Calls Tryz.prog 72 #[v] w (Gives w fun v' _=>v'=.int .i64 (chk p.2)):=by
 refine via fun R hR=>?_
 obtain ⟨a,k,s,b,m,d,b',m',d',rfl,-⟩:=hv.op
 clear hv
 obtain ⟨w1,hw1,b1,c1,-,-⟩:=bx1 w [.slice a p.1.1.length k,.bool s,.slice b m d,.slice b' m' d',.int .i64 p.2] 144
 have HW:=qH hw1
 have C1:=qH c1
 clear hw1 c1
 go_enter Tryz.func72,Tryz.ntmps72
 go_upto_region 1 with (fail)
 rw [← HW.out]
 clear HW
 obtain ⟨k0,k1,k2,k3,k4⟩:=C1.out.c5
 by_cases h1:p.2 < 1
 ·have hd1:decide (p.2 < 1)=true:=decide_eq_true h1
  have hc:chk p.2=4:=if_neg (fun h=>by omega)
  go_wp2_with fail
  exact hR.out _ _ (Gives.mk b1 (by first | (rw [hc];done) | (rw [hc];rfl)))
 have hd1:decide (p.2 < 1)=false:=decide_eq_false h1
 by_cases h3:3 < p.2
 ·have hd3:decide (3 < p.2)=true:=decide_eq_true h3
  have hc:chk p.2=4:=if_neg (fun h=>by omega)
  go_wp2_with fail
  exact hR.out _ _ (Gives.mk b1 (by first | (rw [hc];done) | (rw [hc];rfl)))
 have hd3:decide (3 < p.2)=false:=decide_eq_false h3
 have hc:chk p.2=0:=if_pos ⟨by omega,by omega⟩
 go_wp2_with fail
 exact hR.out _ _ (Gives.mk b1 (by first | (rw [hc];done) | (rw [hc];rfl)))
theorem says_any {w:World} {v:Value} {q:Rat} {op:Int} (hv:OwnQ 156 0 w v q):
  Calls Tryz.prog 73 #[.int .i64 op,v] w (Gives w fun v' _=>v'=.bool (says op q)):=by
 refine via fun R hR=>?_
 have HS:Hid (∀ w',Ext w w'→Calls Tryz.prog 23 #[v] w' (Gives w' fun v' _=>v'=.int .i64 q.num.sign)):=fun w' x=>rsign_any (hv.rd.ext x)
 obtain ⟨s,a,l,c,a',l',c',rfl,-⟩:=hv.op
 clear hv
 unfold says at hR
 generalize q.num.sign=sg at*
 obtain ⟨w1,hw1,b1,c1,-,-⟩:=bx1 w [.bool s,.slice a l c,.slice a' l' c'] 38
 have HW:=qH hw1
 have C1:=qH c1
 clear hw1 c1
 go_enter Tryz.func73,Tryz.ntmps73
 go_upto_region 1 with (fail)
 rw [← HW.out]
 clear HW
 obtain ⟨k0,k1,k2⟩:=C1.out.c3
 go_wp2_with fail
 refine (HS.out _ b1).mono ?_
 rintro e w2 ⟨_,rfl,b2,rfl⟩
 clear k0 k1 k2
 by_cases h0:sg=0
 ·have e0:(sg == 0)=true:=beqT h0
  by_cases h2:op=2
  ·have e2:(op != 2)=false:=bneF h2
   have hlt:=dF (sg < 0)
   go_wp2_with fail
   exact hR.out _ _ (Gives.mk (eT b1 b2) (by rw [e0,e2,hlt];rfl))
  have e2:(op != 2)=true:=bneT h2
  go_wp2_with fail
  exact hR.out _ _ (Gives.mk (eT b1 b2) (by rw [e0,e2];rfl))
 have e0:(sg == 0)=false:=beqF h0
 by_cases hl:sg < 0
 ·have hlt:decide (sg < 0)=true:=decide_eq_true hl
  by_cases h3:op=3
  ·have e3:(op != 3)=false:=bneF h3
   go_wp2_with fail
   exact hR.out _ _ (Gives.mk (eT b1 b2) (by rw [e0,e3];simp))
  have e3:(op != 3)=true:=bneT h3
  go_wp2_with fail
  exact hR.out _ _ (Gives.mk (eT b1 b2) (by rw [e0,e3,hlt];rfl))
 have hlt:decide (sg < 0)=false:=decide_eq_false hl
 go_wp2_with fail
 exact hR.out _ _ (Gives.mk (eT b1 b2) (by rw [e0,hlt];rfl))
open Go.RowKit Go.Att

theorem put5_below {w0 w:World} {B:Nat} (h:Ext w0 w) (hB:w0.heap.size≤B) (x0 x1 x2 x3 x4:Value):Ext w0 (((((w.setCell ⟨B,0,none⟩ x0).setCell ⟨B,1,none⟩ x1).setCell ⟨B,2,none⟩ x2).setCell ⟨B,3,none⟩ x3).setCell ⟨B,4,none⟩ x4):=putL_below hB [x0,x1,x2,x3,x4] 0 h
theorem of9_any {w:World} {v:Value} {p:NAT} (hv:RdNA w v p) (hs:∀ t∈p.1.1,Nlt 1000000000 t.2) (hn:Nlt 1000000000 p.1.2):
  Calls Tryz.prog 54 #[v] w (Gives w fun v' w'=>OwnA w' v' (atA p)):=by
 refine via fun R hR=>?_
 obtain ⟨a,k,y,z,rfl,hE⟩:=hv.op
 have HEX:Hid (∀ w',Ext w w'→Calls Tryz.prog 85 #[.agg #[.slice a p.1.1.length k,.bool p.1.2.1,y,z]] w' (Gives w' fun v' w'=>OwnX 0 w' v' (tL p.1.1) (qN p.1.2))):=fun w' x=>expr8_sm (hE.ext x) hs hn
 clear hv hs hn hE
 unfold atA at hR
 generalize tL p.1.1=la at*
 generalize qN p.1.2=ca at*
 generalize p.2=op at*
 generalize p.1.2.1=sg at*
 generalize p.1.1.length=n0 at*
 obtain ⟨w1,hw1,b1,c1,c2,-,-,-⟩:=bx2 w [.slice a n0 k,.bool sg,y,z,.int .i64 op] [.slice none 0 0,.bool false,.slice none 0 0,.slice none 0 0,.int .i64 0] 109 144
 have HW:=qH hw1
 have C1:=qH c1
 have R2:Hid (Rt w1 (w.heap.size+1) 5 144):=by
  show Rt _ _ _ _
  rw [hw1]
  have:=Rt.new (w.alloc (.cells #[.slice a n0 k,.bool sg,y,z,.int .i64 op] 109)) [.slice none 0 0,.bool false,.slice none 0 0,.slice none 0 0,.int .i64 0] 144
  simpa using this
 clear c1 c2 hw1
 go_enter Tryz.func54,Tryz.ntmps54
 go_upto_region 1 with (fail)
 rw [← HW.out]
 clear HW
 have b2:=drew_ext w1
 have XE:=b2
 refine wp_region_noPanic ?_
 refine wp_region_last_drew (st:=6) (S:=fun w'=>w'.cell? ⟨w.heap.size,0,none⟩=some (.slice a n0 k)∧w'.cell? ⟨w.heap.size,1,none⟩=some (.bool sg)∧w'.cell? ⟨w.heap.size,2,none⟩=some (y)∧w'.cell? ⟨w.heap.size,3,none⟩=some (z)∧w'.cell? ⟨w.heap.size,4,none⟩=some (.int .i64 op)) kR ((C1.out.ext XE).c5) (fun hHeld=>?_)
 refine tkL 0 hHeld ?_
 simp only [jP,jJ]
 refine tkL 1 hHeld ?_
 simp only [jP,jJ]
 refine tkL 3 hHeld ?_
 simp only [jP,jJ]
 refine tkL 4 hHeld ?_
 simp only [jP,jJ]
 refine rdL 2 kR rfl (fun K hK=>?_)
 go_simp
 go_at_call 85;refine (HEX.out _ (eT b1 XE)).mono ?_;rintro e w3 ⟨v3,rfl,b3,o3⟩;have O3:=qH o3;clear o3;(first | have XE:=eT XE b3 | have XE:=eT (eT XE (Ext.alloc _ _)) b3);obtain ⟨a3,k3,s3,d3,m3,e3,d4,m4,e4,rfl,-,-,O4⟩:=OwnEx.op O3.out
 go_wp2_with fail
 refine hK.out _ _ ((C1.out.ext XE).c5) (fun hHeld=>?_)
 clear hK K
 try simp only [jP,jJ]
 refine tkL 5 hHeld ?_
 simp only [jP,jJ]
 obtain ⟨_,_,_,_,_,j0,j1,j2,j3,j4,i0,i1,i2,i3,i4⟩:=(R2.out.ext XE).c5
 refine wpAnyL_ready (rs:=[6]) kR (by simp) ?_
 refine AllReadyL.last (o:=_) rfl (fun K hK=>?_)
 go_simp
 refine hK.out _ _ ?_
 clear hK K
 try simp only [jP,jJ]
 refine wpAnyL_done kR ?_ _
 refine NoPanic.normal ?_
 go_wp2_with fail
 refine bodyPost_ret (v:=.agg #[.slice a3 la.length k3,.bool s3,.slice d3 m3 e3,.slice d4 m4 e4,.int .i64 op]) (by simp [results,Tryz.results54,go_sem,j0,j1,j2,j3,j4]) rfl ?_
 exact hR.out _ _ (Gives.mk (put5_below (eT b1 XE) oM _ _ _ _ _) ⟨_,_,_,_,rfl,O4.out.putT (R2.out.ext XE) dC dC 0 [_,_,_,_,_]⟩)
theorem etAt:ElemT Tryz.prog 49 144 (.agg #[.slice none 0 0,.bool false,.slice none 0 0,.slice none 0 0,.int .i64 0]) 5 88:=ElemT.mk' Tryz.underlying49 kR rfl dC
open Go.RowKit Go.Att

open Go.RowKit Go.Att

end Go.Proofs.YtmlhccajicmpfaaGreat
