/- A group of texts: PTold21, PR8Eval, PRef21All, PRef21Right, PRight, PR15Rats, PRef21Check -/
import Derived.Test.YthpaifdfafjlcaaGreatSq
import Derived.Test.YthpaifdfafjlcaaGreatNumsAll
import Derived.Test.YthpaifdfafjlcaaGreatR8All
import Derived.Test.YthpaifdfafjlcaaGreatRef5All
import Derived.Test.YthpaifdfafjlcaaGreatTabAll
import Derived.Test.YthpaifdfafjlcaaGreatAtomAll
import Derived.Test.YthpaifdfafjlcaaGreatRef20All
import Derived.Test.YthpaifdfafjlcaaGreatHelpAll
namespace Go.Proofs.YthpaifdfafjlcaaGreat
open Go.RowKit Go.Att

set_option linter.unusedSimpArgs false in
set_option maxHeartbeats 8000000 in
set_option maxRecDepth 100000 in
theorem told21_any {w:World} {vp vt:Value} {P T:List Rat} {f:Bool} (hp:RdRow 3 RdQ w vp P) (ht:RdRow 3 RdQ w vt T) (sp:∀ p∈P,Sz 1000000 p) (st:∀ p∈T,Sz 1000000 p) (lp:P.length≤100000) (lt:T.length≤100000):
  Calls Tryz.prog 16 #[.agg #[.bool f,vp,vt]] w (Gives w fun v' w'=>∃ x y,v'=.agg #[.bool f,x,y]∧RdRow 3 (OwnPp 4) w' x P∧RdRow 3 (OwnPp 4) w' y T):=by
 refine via fun R hR=>?_
 have HL1:Hid (∀ w',Ext w w'→Calls Tryz.prog 22 #[vp] w' (Gives w' fun v' w'=>OwnRow 3 (OwnPp 4) 81 0 w' v' P)):=fun w' x=>(nums_any (hp.ext RdQ.ext x) sp lp).mono fun _ _ ⟨v,e,b,o⟩=>⟨v,e,b,o.mono (Nat.zero_le _)⟩
 have HL2:Hid (∀ w',Ext w w'→Calls Tryz.prog 22 #[vt] w' (Gives w' fun v' w'=>OwnRow 3 (OwnPp 4) 81 0 w' v' T)):=fun w' x=>(nums_any (ht.ext RdQ.ext x) st lt).mono fun _ _ ⟨v,e,b,o⟩=>⟨v,e,b,o.mono (Nat.zero_le _)⟩
 obtain ⟨a,k,rfl,-,-⟩:=hp.shape
 obtain ⟨a',k',rfl,-,-⟩:=ht.shape
 clear hp ht sp st
 generalize P.length=np at*
 generalize T.length=nt at*
 obtain ⟨w1,hw1,b1,c1,-,-,-,-⟩:=bx2 w [.bool f,.slice a np k,.slice a' nt k'] [.bool false,.slice none 0 0,.slice none 0 0] 35 41
 have HW:=Lib.hid hw1
 have C1:=Lib.hid c1
 have R2:Hid (Rt w1 (w.heap.size+1) 3 41):=by
  show Rt _ _ _ _
  rw [hw1]
  have:=Rt.new (w.alloc (.cells #[.bool f,.slice a np k,.slice a' nt k'] 35)) [.bool false,.slice none 0 0,.slice none 0 0] 41
  simpa using this
 clear hw1 c1
 go_enter Tryz.func16,Tryz.ntmps16
 go_upto_region 1 with (fail)
 rw [← HW.out]
 clear HW
 have b2:=drew_ext w1
 have XE:=b2
 refine wp_region_noPanic ?_
 refine wp_region_last_drew (st:=9) (S:=fun w'=>w'.cell? ⟨w.heap.size,0,none⟩=some (.bool f)∧w'.cell? ⟨w.heap.size,1,none⟩=some (.slice a np k)∧w'.cell? ⟨w.heap.size,2,none⟩=some (.slice a' nt k')) (by kernel_rfl) ((C1.out.ext XE).c3) (fun hHeld=>?_)
 refine tkL 0 hHeld ?_
 simp only [jP,jA,jB,jC,jD,jE,jF]
 refine tkL 1 hHeld ?_
 simp only [jP,jA,jB,jC,jD,jE,jF]
 refine tkL 2 hHeld ?_
 simp only [jP,jA,jB,jC,jD,jE,jF]
 refine tkL 3 hHeld ?_
 simp only [jP,jA,jB,jC,jD,jE,jF]
 refine tkL 5 hHeld ?_
 simp only [jP,jA,jB,jC,jD,jE,jF]
 refine tkL 6 hHeld ?_
 simp only [jP,jA,jB,jC,jD,jE,jF]
 refine rdL 4 (by kernel_rfl) rfl (fun K hK=>?_)
 go_simp
 go_at_call 22;refine (HL1.out _ (Ext.trans b1 XE)).mono ?_;rintro e w3 ⟨v3,rfl,b3,o3⟩;have O3:=Lib.hid o3;clear o3;(first | have XE:=Ext.trans XE b3 | have XE:=Ext.trans (Ext.trans XE (Ext.alloc _ _)) b3);obtain ⟨a3,k3,rfl,-,-⟩:=O3.out.rd.shape
 go_wp2_with fail
 refine hK.out _ _ ((C1.out.ext XE).c3) (fun hHeld=>?_)
 clear hK K
 try simp only [jP,jA,jB,jC,jD,jE,jF]
 refine rdL 7 (by kernel_rfl) rfl (fun K hK=>?_)
 go_simp
 go_at_call 22;refine (HL2.out _ (Ext.trans b1 XE)).mono ?_;rintro e w4 ⟨v4,rfl,b4,o4⟩;have O4:=Lib.hid o4;clear o4;(first | have XE:=Ext.trans XE b4 | have XE:=Ext.trans (Ext.trans XE (Ext.alloc _ _)) b4);obtain ⟨a4,k4,rfl,-,-⟩:=O4.out.rd.shape
 go_wp2_with fail
 refine hK.out _ _ ((C1.out.ext XE).c3) (fun hHeld=>?_)
 clear hK K
 try simp only [jP,jA,jB,jC,jD,jE,jF]
 refine tkL 8 hHeld ?_
 simp only [jP,jA,jB,jC,jD,jE,jF]
 obtain ⟨_,_,_,j0,j1,j2,i0,i1,i2⟩:=(R2.out.ext XE).rm.c3
 refine wpAnyL_ready (rs:=[9]) (by kernel_rfl) (by simp) ?_
 refine AllReadyL.last (o:=_) rfl (fun K hK=>?_)
 go_simp
 refine hK.out _ _ ?_
 clear hK K
 try simp only [jP,jA,jB,jC,jD,jE,jF]
 refine wpAnyL_done (by kernel_rfl) ?_ _
 refine NoPanic.normal ?_
 go_wp2_with fail
 refine bodyPost_ret (v:=.agg #[.bool f,.slice a3 P.length k3,.slice a4 T.length k4]) (by simp [results,Tryz.results16,go_sem,j0,j1,j2]) rfl ?_
 have hP:∀ v b,OwnPp 4 w4 v b→OwnPp 4 (Att.putL w4 (w.heap.size+1) 0 [.bool f,.slice a3 P.length k3,.slice a4 T.length k4]) v b:=fun v b h=>OwnP.putT h (R2.out.ext XE) (by decide) 0 [_,_,_]
 exact hR.out _ _ (Gives.mk (put3_below (Ext.trans b1 XE) (by omega) _ _ _) ⟨_,_,rfl,((O3.out.ext OwnP.ext b4).putT (R2.out.ext XE) (by decide) 0 [_,_,_] hP).rd,(O4.out.putT (R2.out.ext XE) (by decide) 0 [_,_,_] hP).rd⟩)
open Go.RowKit Go.Att

set_option linter.unusedSimpArgs false in
set_option maxHeartbeats 4000000 in
set_option maxRecDepth 100000 in
theorem r8eval_z {w:World} {v vp:Value} {l:TL} {c:Rat} {P:List Rat} (K M:Nat) (hv:RdY w v l c) (hok:Okx K l c) (hp:RdRow 3 (OwnPp 4) w vp P) (hP:∀ p∈P,Sz M p) (hZ:∀ j,j≤P.length→Sz 1500 (c+smv (cf l) (P.take j) 0)) (hK:K+M≤1500) (hM:M≤1500):
  Calls Tryz.prog 45 #[v,vp] w (Gives w fun v' w'=>OwnP 4 0 w' v' (c+smv (cf l) P 0)):=by
 refine via fun R hR=>?_
 have HSM:Hid (∀ i,i < P.length→Sz M (gt P i)):=fun i hi=>hP _ (gt_mem' hi)
 have HSX:Hid (∀ x,Sz K (cf l x)):=hok.cf
 have HSZ:=Lib.hid hZ
 have HCO:Hid (∀ w' x,Ext w w'→Calls Tryz.prog 74 #[v,.int .i64 x] w' (Gives w' fun v' w'=>OwnP 4 0 w' v' (cf l x))):=fun w' x y=>r8coef_any (x:=x) K (hv.ext y) hok.2.1 (hok.2.2.1 x) hok.1 (by omega)
 obtain ⟨a,k,s,b,m,d,b',m',d',rfl,hlk,hkm,HRW,HRC⟩:=hv.op
 obtain ⟨ap,kp,rfl,hpk,hpm⟩:=hp.shape
 unfold maxLen at hpm
 have HP:=Lib.hid hp
 clear hv hP hp hok HRW hZ
 obtain ⟨w1,hw1,b1,c1,c2,r1,r2,z1⟩:=bx2 w [.slice a l.length k,.bool s,.slice b m d,.slice b' m' d'] [.bool false,.slice none 0 0,.slice none 0 0] 83 81
 have HW:=Lib.hid hw1
 have C1:=Lib.hid c1
 have R2:Hid (Rt w1 (w.heap.size+1) 3 81):=by
  show Rt _ _ _ _
  rw [hw1]
  have:=Rt.new (w.alloc (.cells #[.slice a l.length k,.bool s,.slice b m d,.slice b' m' d'] 83)) [.bool false,.slice none 0 0,.slice none 0 0] 81
  simpa using this
 clear c1 c2 r1 r2 hw1 z1
 go_enter Tryz.func45,Tryz.ntmps45
 go_upto_region 1 with (fail)
 rw [← HW.out]
 clear HW
 obtain ⟨w2,hw2,b2,hC2,-⟩:∃ W,W=w1.alloc (.cells #[.bool s,.slice b m d,.slice b' m' d'] 81)∧Ext w1 W∧Bp 4 81 W w1.heap.size c∧W.heap.size=w1.heap.size+1:=⟨_,rfl,Ext.alloc _ _,Bp.new ((HRC.out).ext b1),by simp⟩
 have HW:=Lib.hid hw2
 clear hw2
 obtain ⟨k0,k1,k2,k3⟩:=C1.out.c4
 go_upto_region 2 with (fail)
 rw [← HW.out]
 clear HW k0 k1 k2 k3
 go_wp2_with fail
 go_loopw [11] (fun t wr=>∃ j:Nat,t=.int .i64 j∧j≤P.length∧Ext w1 wr∧Hid (Bp 4 81 wr w1.heap.size (c+smv (cf l) (P.take j) 0))) (fun t _=>P.length - (intOf t).toNat)
 case atStart=>exact ⟨0,rfl,Nat.zero_le _,b2,by
  rw [List.take_zero]
  show Hid (Bp _ _ _ _ (c+0))
  rw [Rat.add_zero]
  exact hC2⟩
 case round=>
  clear hC2
  obtain ⟨j,rfl,hj,hx,hC⟩:=hrel
  by_cases hjl:j < P.length
  ·have hd:decide ((j:Int) < (P.length:Int))=true:=decide_eq_true (by omega)
   have hJ1:IntKind.i64.wrap (j:Int)=(j:Int):=by rw [IntKind.wrap_i64];omega
   have hJ2:(0:Int)≤(j:Int)∧(j:Int) < (P.length:Int):=⟨by omega,by omega⟩
   have HSN:=Lib.hid (smv_take (cf l) hjl)
   have HZJ:=Lib.hid (HSZ.out j hj)
   have HSJ:=Lib.hid (HSM.out j hjl)
   have HSY:=Lib.hid (HSX.out j)
   have HCJ:=Lib.hid (fun w' y=>HCO.out w' (j:Int) y)
   obtain ⟨w4,hw4⟩:∃ w0:World,w0=wr:=⟨_,rfl⟩
   subst hw4
   have b04:=Ext.trans b1 hx
   obtain ⟨bP,oP,sp,xp,kp',mp,yp,k2',m2',hae,hbo,hqp⟩:=HP.out.op' j hjl
   subst hae
   have CP:=Lib.hid (hbo.ext b04)
   have HQP:=Lib.hid (hqp.ext b04)
   have D1:=Lib.hid (C1.out.ext hx)
   clear hbo hqp
   generalize gt P j=pv at*
   generalize smv (cf l) (P.take j) 0=sj at*
   generalize cf l (j:Int)=fj at*
   go_upto_region 5 with (fail)
   obtain ⟨s0,e1,n1,g1,e2,n2,g2,T1,T2,T3⟩:=hC.out.op
   have b5:=drew_ext w4
   have XE:=b5
   refine wp_region_noPanic ?_
   refine wp_region_last_drew (st:=10) (S:=fun w'=>(w'.cell? ⟨w1.heap.size,0,none⟩=some (.bool s0)∧w'.cell? ⟨w1.heap.size,1,none⟩=some (.slice e1 n1 g1)∧w'.cell? ⟨w1.heap.size,2,none⟩=some (.slice e2 n2 g2))∧(w'.cell? ⟨w.heap.size,0,none⟩=some (.slice a l.length k)∧w'.cell? ⟨w.heap.size,1,none⟩=some (.bool s)∧w'.cell? ⟨w.heap.size,2,none⟩=some (.slice b m d)∧w'.cell? ⟨w.heap.size,3,none⟩=some (.slice b' m' d'))∧(w'.cell? ⟨bP,oP+j*3,none⟩=some (.bool sp)∧w'.cell? ⟨bP,oP+j*3+1,none⟩=some (.slice xp kp' mp)∧w'.cell? ⟨bP,oP+j*3+2,none⟩=some (.slice yp k2' m2'))) (by kernel_rfl) (⟨(T1.out.ext XE).c3,(D1.out.ext XE).c4,(CP.out.ext XE).c3⟩) (fun hHeld=>?_)
   refine tkL 0 hHeld ?_
   simp only [jP,jA,jB,jC,jD,jE,jF]
   refine tkL 1 hHeld ?_
   simp only [jP,jA,jB,jC,jD,jE,jF]
   refine tkL 2 hHeld ?_
   simp only [jP,jA,jB,jC,jD,jE,jF]
   refine tkL 4 hHeld ?_
   simp only [jP,jA,jB,jC,jD,jE,jF]
   refine tkL 5 hHeld ?_
   simp only [jP,jA,jB,jC,jD,jE,jF]
   refine tkL 6 hHeld ?_
   simp only [jP,jA,jB,jC,jD,jE,jF]
   refine tkL 7 hHeld ?_
   simp only [jP,jA,jB,jC,jD,jE,jF]
   refine rdL 3 (by kernel_rfl) rfl (fun K hK=>?_)
   go_simp
   go_at_call 74;refine (HCJ.out _ (Ext.trans b04 XE)).mono ?_;rintro e w6 ⟨v6,rfl,b6,o6⟩;have O6:=Lib.hid o6;clear o6;(first | have XE:=Ext.trans XE b6 | have XE:=Ext.trans (Ext.trans XE (Ext.alloc _ _)) b6)
   go_wp2_with fail
   refine hK.out _ _ (⟨(T1.out.ext XE).c3,(D1.out.ext XE).c4,(CP.out.ext XE).c3⟩) (fun hHeld=>?_)
   clear hK K
   try simp only [jP,jA,jB,jC,jD,jE,jF]
   refine rdL 8 (by kernel_rfl) rfl (fun K hK=>?_)
   go_simp
   go_at_call 73;refine (r5mul_any O6.out.rd (HQP.out.rd.ext XE) (HSY.out.bits.le (by omega)) (HSJ.out.bits.le (by omega))).mono ?_;rintro e w7 ⟨v7,rfl,b7,o7⟩;have O7:=Lib.hid o7;clear o7;(first | have XE:=Ext.trans XE b7 | have XE:=Ext.trans (Ext.trans XE (Ext.alloc _ _)) b7)
   go_wp2_with fail
   refine hK.out _ _ (⟨(T1.out.ext XE).c3,(D1.out.ext XE).c4,(CP.out.ext XE).c3⟩) (fun hHeld=>?_)
   clear hK K
   try simp only [jP,jA,jB,jC,jD,jE,jF]
   refine rdL 9 (by kernel_rfl) rfl (fun K hK=>?_)
   go_simp
   go_at_call 72;refine (r5add_any (T3.out.rd.ext XE) O7.out.rd (HZJ.out.bits.le (by omega)) ((HSY.out.mul HSJ.out).bits.le (by omega))).mono ?_;rintro e w8 ⟨v8,rfl,b8,o8⟩;have O8:=Lib.hid o8;clear o8;(first | have XE:=Ext.trans XE b8 | have XE:=Ext.trans (Ext.trans XE (Ext.alloc _ _)) b8);obtain ⟨_,_,_,_,_,_,_,rfl,P8⟩:=O8.out.op
   go_wp2_with fail
   refine hK.out _ _ (⟨(T1.out.ext XE).c3,(D1.out.ext XE).c4,(CP.out.ext XE).c3⟩) (fun hHeld=>?_)
   clear hK K
   try simp only [jP,jA,jB,jC,jD,jE,jF]
   obtain ⟨_,_,_,j0,j1,j2,i0,i1,i2⟩:=(T2.out.ext XE).rm.c3
   refine wpAnyL_ready (rs:=[10]) (by kernel_rfl) (by simp) ?_
   refine AllReadyL.last (o:=_) rfl (fun K hK=>?_)
   go_simp
   refine hK.out _ _ ?_
   clear hK K
   try simp only [jP,jA,jB,jC,jD,jE,jF]
   refine wpAnyL_done (by kernel_rfl) ?_ _
   refine NoPanic.normal ?_
   go_wp2_with fail
   go_roundw
   case rel=>exact ⟨j+1,by go_num,by omega,put3_below (Ext.trans hx XE) (Nat.le_refl _) _ _ _,by
    rw [HSN.out,← Rat.add_assoc]
    exact Bp.set (T2.out.ext XE) (by decide) (P8.out.mono (Nat.zero_le _))⟩
   case measure=>simp [intOf] <;> omega
  ·obtain rfl:j=P.length:=by omega
   have hd:decide ((P.length:Int) < (P.length:Int))=false:=decide_eq_false (by omega)
   rw [List.take_length] at hC
   obtain ⟨s0,e1,n1,g1,e2,n2,g2,T1,T2,T3⟩:=hC.out.op
   obtain ⟨k0,k1,k2⟩:=T1.out.c3
   have RR:=Lib.hid (R2.out.ext hx)
   obtain ⟨_,_,_,j0,j1,j2,i0,i1,i2⟩:=RR.out.rm.c3
   go_wp2_with fail
   refine bodyPost_ret (v:=.agg #[.bool s0,.slice e1 n1 g1,.slice e2 n2 g2]) (by simp [results,Tryz.results45,go_sem,j0,j1,j2]) rfl ?_
   exact hR.out _ _ (Gives.mk (put3_below (Ext.trans b1 hx) (Nat.le_succ _) _ _ _) (T3.out.putT RR.out (by decide) 0 [_,_,_]))
open Go.RowKit Go.Att

set_option linter.unusedSimpArgs false in
set_option maxHeartbeats 4000000 in
set_option maxRecDepth 100000 in
theorem says9r_any {w:World} {v:Value} {q:Rat} {op:Int} (hv:RdP w v q) (ho:1≤op∧op≤3):
  Calls Tryz.prog 44 #[.int .i64 op,v] w (Gives w fun v' _=>v'=.bool (says op q)):=by
 refine via fun R hR=>?_
 have HS:Hid (∀ w',Ext w w'→Calls Tryz.prog 71 #[v] w' (Gives w' fun v' _=>v'=.int .i64 q.num.sign)):=fun w' x=>r5sign_any (hv.ext x)
 obtain ⟨s,a,l,c,a',l',c',rfl,-⟩:=hv.op
 clear hv
 unfold says at hR
 generalize q.num.sign=sg at*
 obtain ⟨w1,hw1,b1,c1,-,-⟩:=bx1 w [.bool s,.slice a l c,.slice a' l' c'] 81
 have HW:=Lib.hid hw1
 have C1:=Lib.hid c1
 clear hw1 c1
 go_enter Tryz.func44,Tryz.ntmps44
 go_upto_region 1 with (fail)
 rw [← HW.out]
 clear HW
 obtain ⟨k0,k1,k2⟩:=C1.out.c3
 go_wp2_with fail
 refine (HS.out _ b1).mono ?_
 rintro e w2 ⟨_,rfl,b2,rfl⟩
 clear k0 k1 k2
 have x2:=Ext.trans b1 b2
 have h3:op=1∨op=2∨op=3:=by omega
 rcases h3 with rfl | rfl | rfl
 ·go_wp2_with fail
  exact hR.out _ _ (Gives.mk x2 (by
   show Value.bool _=Value.bool _
   congr 1
   rw [Bool.eq_iff_iff]
   simp
   omega))
 ·go_wp2_with fail
  exact hR.out _ _ (Gives.mk x2 (by
   show Value.bool _=Value.bool _
   congr 1
   simp))
 ·go_wp2_with fail
  exact hR.out _ _ (Gives.mk x2 (by
   show Value.bool _=Value.bool _
   congr 1
   simp))
set_option linter.unusedSimpArgs false in
set_option maxHeartbeats 8000000 in
set_option maxRecDepth 100000 in
theorem all21_any {w:World} {va vb:Value} {L:List AT} {P:List Rat} (K M:Nat) (ha:RdRow 5 OwnB9 w va L) (hb:RdRow 3 (OwnPp 4) w vb P) (hok:∀ a∈L,Okx K a.1.1 a.1.2) (hP:∀ p∈P,Sz M p) (hK:K+M≤1500) (hM:M≤1500)
  (hZ:∀ a∈L,∀ j,j≤P.length→Sz 1500 (a.1.2+smv (cf a.1.1) (P.take j) 0)) (hop:∀ a∈L,1≤a.2∧a.2≤3) (hl:L.length≤100000):
  Calls Tryz.prog 21 #[va,vb] w (Gives w fun v' _=>v'=.bool (L.all fun a=>says a.2 (av P a))):=by
 refine via fun R hR=>?_
 have HA:=Lib.hid ha
 have HEV:Hid (∀ w' v a,Ext w w'→a∈L→OwnEy 4 87 0 w' v a.1.1 a.1.2→Calls Tryz.prog 45 #[v,vb] w' (Gives w' fun v' w'=>OwnP 4 0 w' v' (av P a))):=fun w' v a x h h2=>
  r8eval_z K M (OwnEy.rd h2) (hok a h) (hb.ext OwnP.ext x) hP (hZ a h) hK hM
 have HOP:=Lib.hid hop
 obtain ⟨aa,ka,rfl,hlk,hkm⟩:=ha.shape
 unfold maxLen at hkm
 obtain ⟨ab,kb,rfl,-,-⟩:=hb.shape
 clear ha hb hok hP hZ hop
 go_enter Tryz.func21,Tryz.ntmps21
 go_wp2_with fail
 go_loopw [9] (fun t wr=>∃ j:Nat,t=.int .i64 j∧j≤L.length∧Ext w wr∧Hid (((L.take j).all fun a=>says a.2 (av P a))=true)) (fun t _=>L.length - (intOf t).toNat)
 case atStart=>exact ⟨0,rfl,Nat.zero_le _,Ext.refl _,by rw [List.take_zero];rfl⟩
 case round=>
  obtain ⟨j,rfl,hj,hx,hO⟩:=hrel
  by_cases hjl:j < L.length
  ·have hd:decide ((j:Int) < (L.length:Int))=true:=decide_eq_true (by omega)
   have HJ1:IntKind.i64.wrap ((j:Int)+1)=((j+1:Nat):Int):=by rw [IntKind.wrap_i64];omega
   have hJ2:(0:Int)≤(j:Int)∧(j:Int) < (L.length:Int):=⟨by omega,by omega⟩
   obtain ⟨bA,oA,xa,xk,xs,xb,xm,xd,xb',xm',xd',hae,hbo,hax⟩:=HA.out.btm j hjl
   subst hae
   obtain ⟨u0,u1,u2,u3,u4⟩:=(hbo.ext hx).c5
   obtain ⟨w4,hw4,b4,c4,-,-⟩:=bx1 wr [.slice xa L[j].1.1.length xk,.bool xs,.slice xb xm xd,.slice xb' xm' xd',.int .i64 L[j].2] 85
   have HW:=Lib.hid hw4
   have C4:=Lib.hid c4
   have x4:=Ext.trans hx b4
   have HEX:Hid (∀ w',Ext w4 w'→Calls Tryz.prog 45 #[.agg #[.slice xa L[j].1.1.length xk,.bool xs,.slice xb xm xd,.slice xb' xm' xd'],.slice ab P.length kb] w' (Gives w' fun v' w'=>OwnP 4 0 w' v' (av P L[j]))):=fun w' X=>HEV.out w' _ _ (Ext.trans x4 X) (List.getElem_mem hjl) (hax.ext (Ext.trans x4 X))
   have HSY:Hid (∀ w' v,OwnP 4 0 w' v (av P L[j])→Calls Tryz.prog 44 #[.int .i64 L[j].2,v] w' (Gives w' fun v' _=>v'=.bool (says L[j].2 (av P L[j])))):=fun w' v h=>says9r_any h.rd (HOP.out _ (List.getElem_mem hjl))
   have HTK:Hid (((L.take (j+1)).all fun a=>says a.2 (av P a))=says L[j].2 (av P L[j])):=by
    show _=_
    rw [← List.take_append_getElem hjl,List.all_append,hO.out]
    simp
   have HNO:Hid (says L[j].2 (av P L[j])=false→(L.all fun a=>says a.2 (av P a))=false):=fun h=>by
    rw [List.all_eq_false]
    exact ⟨L[j],List.getElem_mem hjl,by rw [h];decide⟩
   clear hbo hax hw4 c4
   generalize says L[j].2 (av P L[j])=sb at*
   generalize av P L[j]=q at*
   generalize L[j].1.1.length=ln at*
   generalize L[j].2=op at*
   go_upto_region 4 with (fail)
   rw [← HW.out]
   clear HW u0 u1 u2 u3 u4
   have b5:=drew_ext w4
   have XE:=b5
   refine wp_region_noPanic ?_
   refine wp_region_held_drew (S:=fun w'=>w'.cell? ⟨wr.heap.size,0,none⟩=some (.slice xa ln xk)∧w'.cell? ⟨wr.heap.size,1,none⟩=some (.bool xs)∧w'.cell? ⟨wr.heap.size,2,none⟩=some (.slice xb xm xd)∧w'.cell? ⟨wr.heap.size,3,none⟩=some (.slice xb' xm' xd')∧w'.cell? ⟨wr.heap.size,4,none⟩=some (.int .i64 op)) (by kernel_rfl) ((C4.out.ext XE).c5) (fun hHeld=>?_)
   refine tkH 0 hHeld ?_
   simp only [jP,jA,jB,jC,jD,jE,jF]
   refine tkH 1 hHeld ?_
   simp only [jP,jA,jB,jC,jD,jE,jF]
   refine tkH 2 hHeld ?_
   simp only [jP,jA,jB,jC,jD,jE,jF]
   refine tkH 3 hHeld ?_
   simp only [jP,jA,jB,jC,jD,jE,jF]
   refine tkH 4 hHeld ?_
   simp only [jP,jA,jB,jC,jD,jE,jF]
   refine rdH 5 (by kernel_rfl) rfl (fun K hK=>?_)
   go_simp
   go_at_call 45;refine (HEX.out _ XE).mono ?_;rintro e w6 ⟨v6,rfl,b6,o6⟩;have O6:=Lib.hid o6;clear o6;(first | have XE:=Ext.trans XE b6 | have XE:=Ext.trans (Ext.trans XE (Ext.alloc _ _)) b6);obtain ⟨s6,a6,l6,c6,a7,l7,c7,rfl,P6⟩:=O6.out.op
   go_wp2_with fail
   refine hK.out _ _ ((C4.out.ext XE).c5) (fun hHeld=>?_)
   clear hK K
   try simp only [jP,jA,jB,jC,jD,jE,jF]
   refine rdH 6 (by kernel_rfl) rfl (fun K hK=>?_)
   go_simp
   go_at_call 44;refine (HSY.out _ _ P6.out).mono ?_;rintro e w7 ⟨_,rfl,b7,rfl⟩;(first | have XE:=Ext.trans XE b7 | have XE:=Ext.trans (Ext.trans XE (Ext.alloc _ _)) b7)
   go_wp2_with fail
   refine hK.out _ _ ((C4.out.ext XE).c5) (fun hHeld=>?_)
   clear hK K
   try simp only [jP,jA,jB,jC,jD,jE,jF]
   refine tkH 7 hHeld ?_
   simp only [jP,jA,jB,jC,jD,jE,jF]
   refine wpAnyH_done (by kernel_rfl) ?_ _
   refine NoPanic.normal ?_
   clear hHeld
   cases sb with
   | false=>
    go_wp2_with fail
    exact hR.out _ _ (Gives.mk (Ext.trans x4 XE) (by first | (rw [HNO.out rfl];done) | (rw [HNO.out rfl];rfl) | (rw [HNO.out (by simp)];done) | (rw [HNO.out (by simp)];rfl)))
   | true=>
    go_wp2_with fail
    go_roundw
    case rel=>exact ⟨j+1,by go_num,by omega,Ext.trans x4 XE,HTK.out⟩
    case measure=>simp [intOf] <;> omega
  ·obtain rfl:j=L.length:=by omega
   have hd:decide ((L.length:Int) < (L.length:Int))=false:=decide_eq_false (by omega)
   rw [List.take_length] at hO
   go_wp2_with fail
   exact hR.out _ _ (Gives.mk hx (by first | (rw [hO.out];done) | (rw [hO.out];rfl)))
open Go.RowKit Go.Att

set_option linter.unusedSimpArgs false in
set_option maxHeartbeats 8000000 in
set_option maxRecDepth 100000 in
theorem right21_yes {w:World} {va vp vt:Value} {L:List AT} {P:List Rat} {n:Int} (K M:Nat) (ha:RdRow 5 OwnB9 w va L) (hb:RdRow 3 (OwnPp 4) w vp P) (ht:RdRow 3 (OwnPp 4) w vt []) (hn:(P.length:Int)=n) (hok:∀ a∈L,Okx K a.1.1 a.1.2) (hP:∀ p∈P,Sz M p) (hK:K+M≤1500) (hM:M≤1500)
  (hZ:∀ a∈L,∀ j,j≤P.length→Sz 1500 (a.1.2+smv (cf a.1.1) (P.take j) 0)) (hop:∀ a∈L,1≤a.2∧a.2≤3) (hl:L.length≤100000) (hh:∀ a∈L,says a.2 (av P a)=true):
  Calls Tryz.prog 41 #[.int .i64 n,va,.agg #[.bool true,vp,vt]] w (Gives w fun v' _=>v'=.bool true):=by
 refine via fun R hR=>?_
 have HAL:Hid (∀ w',Ext w w'→Calls Tryz.prog 21 #[va,vp] w' (Gives w' fun v' _=>v'=.bool true)):=fun w' x=>
  (all21_any K M (ha.ext OwnBt.ext x) (hb.ext OwnP.ext x) hok hP hK hM hZ hop hl).mono fun _ _ ⟨v,e,b,o⟩=>⟨v,e,b,by rw [o,List.all_eq_true.2 hh]⟩
 obtain ⟨aa,ka,rfl,-,-⟩:=ha.shape
 obtain ⟨ab,kb,rfl,-,-⟩:=hb.shape
 obtain ⟨at',kt,rfl,-,-⟩:=ht.shape
 clear ha hb ht hok hP hZ hop hh
 subst hn
 obtain ⟨w1,hw1,b1,c1,-,-⟩:=bx1 w [.bool true,.slice ab P.length kb,.slice at' 0 kt] 41
 have HW:=Lib.hid hw1
 have C1:=Lib.hid c1
 clear hw1 c1
 go_enter Tryz.func41,Tryz.ntmps41
 go_upto_region 1 with (fail)
 rw [← HW.out]
 clear HW
 obtain ⟨k0,k1,k2⟩:=C1.out.c3
 have e1:((P.length:Int) == (P.length:Int))=true:=beqT rfl
 generalize P.length=np at*
 go_wp2_with fail
 refine (HAL.out _ b1).mono ?_
 rintro e w2 ⟨_,rfl,b2,rfl⟩
 go_wp2_with fail
 exact hR.out _ _ (Gives.mk (Ext.trans b1 b2) rfl)
set_option linter.unusedSimpArgs false in
set_option maxHeartbeats 8000000 in
set_option maxRecDepth 100000 in
theorem right21_no {w:World} {va vp vt:Value} {L:List AT} {T:List Rat} {n:Int} (ha:RdRow 5 OwnB9 w va L) (hb:RdRow 3 (OwnPp 4) w vp []) (ht:RdRow 3 (OwnPp 4) w vt T) (hz:TzP L T) (hlen:L.length=T.length) (hl:L.length≤10) (hb2:∀ z∈L.zip T,fbad z=false) (hr:RefD L T):
  Calls Tryz.prog 41 #[.int .i64 n,va,.agg #[.bool false,vp,vt]] w (Gives w fun v' _=>v'=.bool true):=by
 refine via fun R hR=>?_
 have HCK:Hid (∀ w',Ext w w'→Calls Tryz.prog 67 #[va,vt] w' (Gives w' fun v' _=>v'=.int .i64 0)):=fun w' x=>
  (check20_any (ha.ext OwnBt.ext x) (ht.ext OwnP.ext x) (by omega)).mono fun _ _ ⟨v,e,b,o⟩=>⟨v,e,b,by
   rw [o]
   unfold chk20
   rw [if_neg (fun h=>h hlen),if_neg fun h=>?_]
   obtain ⟨z,hz,hf⟩:=List.any_eq_true.1 h
   rw [hb2 z hz] at hf
   cases hf⟩
 have HRF:Hid (∀ w',Ext w w'→Calls Tryz.prog 68 #[va,vt] w' (Gives w' fun v' _=>v'=.bool true)):=fun w' x=>
  (refutes20_z (ha.ext OwnBt.ext x) (ht.ext OwnP.ext x) hz hlen hl).mono fun _ _ ⟨v,e,b,t,o,h⟩=>⟨v,e,b,by rw [o,h.2 hr]⟩
 obtain ⟨aa,ka,rfl,-,-⟩:=ha.shape
 obtain ⟨ab,kb,rfl,-,-⟩:=hb.shape
 obtain ⟨at',kt,rfl,-,-⟩:=ht.shape
 clear ha hb ht hz hr hb2 hlen hl
 obtain ⟨w1,hw1,b1,c1,-,-⟩:=bx1 w [.bool false,.slice ab 0 kb,.slice at' T.length kt] 41
 have HW:=Lib.hid hw1
 have C1:=Lib.hid c1
 clear hw1 c1
 go_enter Tryz.func41,Tryz.ntmps41
 go_upto_region 1 with (fail)
 rw [← HW.out]
 clear HW
 obtain ⟨k0,k1,k2⟩:=C1.out.c3
 generalize T.length=nt at*
 go_wp2_with fail
 refine (HCK.out _ b1).mono ?_
 rintro e w2 ⟨_,rfl,b2,rfl⟩
 obtain ⟨k0',k1',k2'⟩:=(C1.out.ext b2).c3
 go_wp2_with fail
 refine (HRF.out _ (Ext.trans b1 b2)).mono ?_
 rintro e w3 ⟨_,rfl,b3,rfl⟩
 go_wp2_with fail
 exact hR.out _ _ (Gives.mk (Ext.trans b1 (Ext.trans b2 b3)) rfl)
open Go.RowKit Go.Att

set_option linter.unusedSimpArgs false in
set_option maxHeartbeats 8000000 in
set_option maxRecDepth 100000 in
theorem right_any {w:World} {va vp vt:Value} {L:List AT} {P T:List Rat} {f:Bool} {n:Int} (ha:RdRow 5 OwnA w va L) (hs:∀ a∈L,Smx a.1.1 a.1.2) (hl:L.length≤1000) (hp:RdRow 3 RdQ w vp P) (ht:RdRow 3 RdQ w vt T) (sp:∀ p∈P,Sz 1000000 p) (st:∀ p∈T,Sz 1000000 p) (lp:P.length≤100000) (lt:T.length≤100000)
  (hri:∀ w' u x y,Ext w w'→RdRow 5 OwnB9 w' u L→RdRow 3 (OwnPp 4) w' x P→RdRow 3 (OwnPp 4) w' y T→Calls Tryz.prog 41 #[.int .i64 n,u,.agg #[.bool f,x,y]] w' (Gives w' fun v' _=>v'=.bool true)):
  Calls Tryz.prog 17 #[.int .i64 n,va,.agg #[.bool f,vp,vt]] w (Gives w fun v' _=>v'=.bool true):=by
 refine via fun R hR=>?_
 have HLI:Hid (∀ w',Ext w w'→Calls Tryz.prog 12 #[va] w' (Gives w' fun v' w'=>OwnRow 5 OwnB9 85 0 w' v' L)):=fun w' x=>(list9_any (ha.ext OwnAt.ext x) hs hl).mono fun _ _ ⟨v,e,b,o⟩=>⟨v,e,b,o.mono (Nat.zero_le _)⟩
 have HTO:Hid (∀ w',Ext w w'→Calls Tryz.prog 16 #[.agg #[.bool f,vp,vt]] w' (Gives w' fun v' w'=>∃ x y,v'=.agg #[.bool f,x,y]∧RdRow 3 (OwnPp 4) w' x P∧RdRow 3 (OwnPp 4) w' y T)):=fun w' x=>told21_any (hp.ext RdQ.ext x) (ht.ext RdQ.ext x) sp st lp lt
 have HRI:=Lib.hid hri
 obtain ⟨aa,ka,rfl,-,-⟩:=ha.shape
 obtain ⟨ap,kp,rfl,-,-⟩:=hp.shape
 obtain ⟨at',kt,rfl,-,-⟩:=ht.shape
 clear ha hp ht hs sp st hri hl lp lt
 obtain ⟨nl,hnl⟩:∃ m,L.length=m:=⟨_,rfl⟩
 rw [hnl] at HLI ⊢
 clear hnl
 generalize P.length=np at*
 generalize T.length=nt at*
 obtain ⟨w1,hw1,b1,c1,-,-⟩:=bx1 w [.bool f,.slice ap np kp,.slice at' nt kt] 35
 have HW:=Lib.hid hw1
 have C1:=Lib.hid c1
 clear hw1 c1
 go_enter Tryz.func17,Tryz.ntmps17
 go_upto_region 1 with (fail)
 rw [← HW.out]
 clear HW
 have b2:=drew_ext w1
 have XE:=b2
 refine wp_region_noPanic ?_
 refine wp_region_held_drew (S:=fun w'=>w'.cell? ⟨w.heap.size,0,none⟩=some (.bool f)∧w'.cell? ⟨w.heap.size,1,none⟩=some (.slice ap np kp)∧w'.cell? ⟨w.heap.size,2,none⟩=some (.slice at' nt kt)) (by kernel_rfl) ((C1.out.ext XE).c3) (fun hHeld=>?_)
 refine tkH 0 hHeld ?_
 simp only [jP,jA,jB,jC,jD,jE,jF]
 refine tkH 1 hHeld ?_
 simp only [jP,jA,jB,jC,jD,jE,jF]
 refine tkH 3 hHeld ?_
 simp only [jP,jA,jB,jC,jD,jE,jF]
 refine rdH 2 (by kernel_rfl) rfl (fun K hK=>?_)
 go_simp
 go_at_call 12;refine (HLI.out _ (Ext.trans b1 XE)).mono ?_;rintro e w3 ⟨v3,rfl,b3,o3⟩;have O3:=Lib.hid o3;clear o3;(first | have XE:=Ext.trans XE b3 | have XE:=Ext.trans (Ext.trans XE (Ext.alloc _ _)) b3)
 go_wp2_with fail
 refine hK.out _ _ ((C1.out.ext XE).c3) (fun hHeld=>?_)
 clear hK K
 try simp only [jP,jA,jB,jC,jD,jE,jF]
 refine rdH 4 (by kernel_rfl) rfl (fun K hK=>?_)
 go_simp
 go_at_call 16;refine (HTO.out _ (Ext.trans b1 XE)).mono ?_;rintro e w4 ⟨v4,rfl,b4,o4⟩;have O4:=Lib.hid o4;clear o4;(first | have XE:=Ext.trans XE b4 | have XE:=Ext.trans (Ext.trans XE (Ext.alloc _ _)) b4);obtain ⟨x4,y4,rfl,P4,T4⟩:=O4.out
 go_wp2_with fail
 refine hK.out _ _ ((C1.out.ext XE).c3) (fun hHeld=>?_)
 clear hK K
 try simp only [jP,jA,jB,jC,jD,jE,jF]
 refine rdH 5 (by kernel_rfl) rfl (fun K hK=>?_)
 go_simp
 go_at_call 41;refine (HRI.out _ _ _ _ (Ext.trans b1 XE) (O3.out.ext OwnBt.ext b4).rd P4 T4).mono ?_;rintro e w5 ⟨_,rfl,b5,rfl⟩;(first | have XE:=Ext.trans XE b5 | have XE:=Ext.trans (Ext.trans XE (Ext.alloc _ _)) b5)
 go_wp2_with fail
 refine hK.out _ _ ((C1.out.ext XE).c3) (fun hHeld=>?_)
 clear hK K
 try simp only [jP,jA,jB,jC,jD,jE,jF]
 refine tkH 6 hHeld ?_
 simp only [jP,jA,jB,jC,jD,jE,jF]
 refine wpAnyH_done (by kernel_rfl) ?_ _
 refine NoPanic.normal ?_
 go_wp2_with fail
 exact hR.out _ _ (Gives.mk (Ext.trans b1 XE) rfl)
open Go.RowKit Go.Att

set_option linter.unusedSimpArgs false in
set_option maxHeartbeats 4000000 in
set_option maxRecDepth 100000 in
theorem r15rats_yes {w:World} {va vb:Value} {P:List Rat} (ha:RdRow 3 (OwnPp 4) w va P) (hb:RdRow 3 (OwnPp 4) w vb P) (hP:∀ p∈P,Sb 50000 p) (hl:P.length≤1000):
  Calls Tryz.prog 40 #[va,vb] w (Gives w fun v' _=>v'=.bool true):=by
 refine via fun R hR=>?_
 have HA:=Lib.hid ha
 have HB:=Lib.hid hb
 have HP:=Lib.hid hP
 obtain ⟨aa,ka,rfl,-,-⟩:=ha.shape
 obtain ⟨ab,kb,rfl,-,-⟩:=hb.shape
 clear ha hb hP
 go_enter Tryz.func40,Tryz.ntmps40
 go_wp2_with fail
 go_loopw [13] (fun t wr=>∃ j:Nat,t=.int .i64 j∧j≤P.length∧Ext w wr) (fun t _=>P.length - (intOf t).toNat)
 case atStart=>exact ⟨0,rfl,Nat.zero_le _,Ext.refl _⟩
 case round=>
  obtain ⟨j,rfl,hj,hx⟩:=hrel
  by_cases hjl:j < P.length
  ·have hd:decide ((j:Int) < (P.length:Int))=true:=decide_eq_true (by omega)
   obtain ⟨bP,oP,ps,pa,pl,pk,pa',pl',pk',hpe,hpo,hpq⟩:=HA.out.op' j hjl
   subst hpe
   obtain ⟨bQ,oQ,qs,qa,ql,qk,qa',ql',qk',hqe,hqo,hqq⟩:=HB.out.op' j hjl
   subst hqe
   have hJ1:IntKind.i64.wrap (j:Int)=(j:Int):=by rw [IntKind.wrap_i64];omega
   have hJ2:(0:Int)≤(j:Int)∧(j:Int) < (P.length:Int):=⟨by omega,by omega⟩
   have HSZ:Hid (Sb 50000 (gt P j)):=HP.out _ (gt_mem' hjl)
   have HZ:Hid ((gt P j - gt P j).num.sign=0):=by show _=_;rw [Rat.sub_self];rfl
   generalize gt P j=q at*
   obtain ⟨w4,hw4⟩:∃ w0:World,w0=wr:=⟨_,rfl⟩
   subst hw4
   have CP:=Lib.hid (hpo.ext hx)
   have CQ:=Lib.hid (hqo.ext hx)
   have QP:=Lib.hid (hpq.ext hx)
   have QQ:=Lib.hid (hqq.ext hx)
   clear hpo hqo hpq hqq
   go_upto_region 6 with (fail)
   have b5:=drew_ext w4
   have XE:=b5
   refine wp_region_noPanic ?_
   refine wp_region_held_drew (S:=fun w'=>(w'.cell? ⟨bP,oP+j*3,none⟩=some (.bool ps)∧w'.cell? ⟨bP,oP+j*3+1,none⟩=some (.slice pa pl pk)∧w'.cell? ⟨bP,oP+j*3+2,none⟩=some (.slice pa' pl' pk'))∧(w'.cell? ⟨bQ,oQ+j*3,none⟩=some (.bool qs)∧w'.cell? ⟨bQ,oQ+j*3+1,none⟩=some (.slice qa ql qk)∧w'.cell? ⟨bQ,oQ+j*3+2,none⟩=some (.slice qa' ql' qk'))) (by kernel_rfl) (⟨(CP.out.ext XE).c3,(CQ.out.ext XE).c3⟩) (fun hHeld=>?_)
   refine tkH 0 hHeld ?_
   simp only [jP,jA,jB,jC,jD,jE,jF]
   refine tkH 1 hHeld ?_
   simp only [jP,jA,jB,jC,jD,jE,jF]
   refine tkH 2 hHeld ?_
   simp only [jP,jA,jB,jC,jD,jE,jF]
   refine tkH 3 hHeld ?_
   simp only [jP,jA,jB,jC,jD,jE,jF]
   refine tkH 4 hHeld ?_
   simp only [jP,jA,jB,jC,jD,jE,jF]
   refine tkH 5 hHeld ?_
   simp only [jP,jA,jB,jC,jD,jE,jF]
   refine tkH 6 hHeld ?_
   simp only [jP,jA,jB,jC,jD,jE,jF]
   refine tkH 7 hHeld ?_
   simp only [jP,jA,jB,jC,jD,jE,jF]
   refine rdH 8 (by kernel_rfl) rfl (fun K hK=>?_)
   go_simp
   go_at_call 66;refine (HZ.out ▸ r5cmp_any (QP.out.rd.ext XE) (QQ.out.rd.ext XE) HSZ.out HSZ.out).mono ?_;rintro e w6 ⟨_,rfl,b6,rfl⟩;(first | have XE:=Ext.trans XE b6 | have XE:=Ext.trans (Ext.trans XE (Ext.alloc _ _)) b6)
   go_wp2_with fail
   refine hK.out _ _ (⟨(CP.out.ext XE).c3,(CQ.out.ext XE).c3⟩) (fun hHeld=>?_)
   clear hK K
   try simp only [jP,jA,jB,jC,jD,jE,jF]
   refine tkH 9 hHeld ?_
   simp only [jP,jA,jB,jC,jD,jE,jF]
   refine wpAnyH_done (by kernel_rfl) ?_ _
   refine NoPanic.normal ?_
   go_wp2_with fail
   go_roundw
   case rel=>exact ⟨j+1,by go_num,by omega,Ext.trans hx XE⟩
   case measure=>simp [intOf] <;> omega
  ·obtain rfl:j=P.length:=by omega
   have hd:decide ((P.length:Int) < (P.length:Int))=false:=decide_eq_false (by omega)
   go_wp2_with fail
   exact hR.out _ _ (Gives.mk hx rfl)
open Go.RowKit Go.Att

set_option linter.unusedSimpArgs false in
set_option maxHeartbeats 8000000 in
set_option maxRecDepth 100000 in
theorem rcheck21_any {w:World} {v:Value} {L:List AT} {n:Int} (hv:RdRow 5 OwnB9 w v L) (ht:∀ a∈L,a.1.1.length≤100000):
  Calls Tryz.prog 11 #[.int .i64 n,v] w (Gives w fun v' _=>v'=.int .i64 (chkS n L)):=by
 refine via fun R hR=>?_
 have HV:=Lib.hid hv
 have HT:=Lib.hid ht
 obtain ⟨a,k,rfl,hlk,hkm⟩:=hv.shape
 clear hv ht
 unfold maxLen at hkm
 go_enter Tryz.func11,Tryz.ntmps11
 by_cases h400:400 < n
 ·have hd:decide (400 < n)=true:=decide_eq_true h400
  have HE:Hid (chkS n L=2):=if_pos (.inl h400)
  clear h400
  go_wp2_with fail
  exact hR.out _ _ (Gives.mk (Ext.refl _) (by first | (rw [HE.out];done) | (rw [HE.out];rfl)))
 ·have hd:decide (400 < n)=false:=decide_eq_false h400
  by_cases h2000:2000 < L.length
  ·have hd2:decide ((2000:Int) < (L.length:Int))=true:=decide_eq_true (by omega)
   have HE:Hid (chkS n L=2):=if_pos (.inr h2000)
   clear h400
   go_wp2_with fail
   exact hR.out _ _ (Gives.mk (Ext.refl _) (by first | (rw [HE.out];done) | (rw [HE.out];rfl)))
  ·have hd2:decide ((2000:Int) < (L.length:Int))=false:=decide_eq_false (by omega)
   by_cases hneg:n < 0
   ·have hd3:decide (n < 0)=true:=decide_eq_true hneg
    have HE:Hid (chkS n L=4):=by show _=_;unfold chkS;rw [if_neg (by omega),if_pos hneg]
    clear hneg
    go_wp2_with fail
    exact hR.out _ _ (Gives.mk (Ext.refl _) (by first | (rw [HE.out];done) | (rw [HE.out];rfl)))
   ·have hd3:decide (n < 0)=false:=decide_eq_false hneg
    have HBAD:Hid (∀ j,j < L.length→badA n (gt L j)=true→chkS n L=4):=fun j hj h=>chkS_bad (by omega) hneg hj h
    have HGOOD:Hid ((∀ a∈L,badA n a=false)→chkS n L=0):=chkS_good (by omega) hneg
    clear hneg
    go_wp2_with fail
    go_loopw [20] (fun t wr=>∃ j:Nat,t=.int .i64 j∧j≤L.length∧Ext w wr∧Hid (∀ a∈L.take j,badA n a=false)) (fun t _=>L.length - (intOf t).toNat)
    case atStart=>exact ⟨0,rfl,Nat.zero_le _,Ext.refl _,fun a ha=>by rw [List.take_zero] at ha;cases ha⟩
    case round=>
     obtain ⟨j,rfl,hj,hx,hO⟩:=hrel
     by_cases hjl:j < L.length
     ·have hd4:decide ((j:Int) < (L.length:Int))=true:=decide_eq_true (by omega)
      have HJ1:IntKind.i64.wrap ((j:Int)+1)=((j+1:Nat):Int):=by rw [IntKind.wrap_i64];omega
      have hJ2:(0:Int)≤(j:Int)∧(j:Int) < (L.length:Int):=⟨by omega,by omega⟩
      obtain ⟨bA,oA,xa,xk,xs,xb,xm,xd,xb',xm',xd',hae,hbo,hax⟩:=HV.out.btm j hjl
      subst hae
      obtain ⟨u0,u1,u2,u3,u4⟩:=(hbo.ext hx).c5
      obtain ⟨w4,hw4,b4,c4,-,-⟩:=bx1 wr [.slice xa L[j].1.1.length xk,.bool xs,.slice xb xm xd,.slice xb' xm' xd',.int .i64 L[j].2] 85
      have HW:=Lib.hid hw4
      have C4:=Lib.hid c4
      have HRT:Hid (RdRow 4 (OwnTp 4) w4 (.slice xa L[j].1.1.length xk) L[j].1.1):=by
       obtain ⟨s',x',y',z',he,h1,-⟩:=hax.ext (Ext.trans hx b4)
       simp only [Value.agg.injEq,Array.mk.injEq,List.cons.injEq,and_true] at he
       obtain ⟨rfl,-,-,-⟩:=he
       exact h1.rd
      have HLT:Hid (L[j].1.1.length≤100000):=HT.out _ (List.getElem_mem hjl)
      have HBD:Hid (badA n L[j]=((chk L[j].2 != 0) || outV n L[j].1.1)):=rfl
      have HB4:Hid (badA n L[j]=true→chkS n L=4):=fun h=>HBAD.out j hjl (by rw [gt_lt hjl];exact h)
      have HTK:Hid (badA n L[j]=false→∀ a∈L.take (j+1),badA n a=false):=fun h a ha=>by
       rw [← List.take_append_getElem hjl] at ha
       rcases List.mem_append.1 ha with ha | ha
       ·exact hO.out a ha
       ·rw [List.mem_singleton.1 ha];exact h
      rw [HBD.out] at HB4 HTK
      clear hbo hax hw4 c4 HBD
      generalize L[j].1.1=tl at*
      generalize L[j].2=op at*
      go_upto_region 8 with (fail)
      rw [← HW.out]
      clear HW u0 u1 u2 u3 u4
      have x4:=Ext.trans hx b4
      obtain ⟨k0,k1,k2,k3,k4⟩:=C4.out.c5
      by_cases ho1:op < 1
      ·have e1:decide (op < 1)=true:=decide_eq_true ho1
       have HC4:Hid (chkS n L=4):=HB4.out (by have:chk op=4:=if_neg (fun h=>by omega);rw [this];rfl)
       clear ho1
       go_wp2_with fail
       exact hR.out _ _ (Gives.mk x4 (by first | (rw [HC4.out];done) | (rw [HC4.out];rfl)))
      ·have e1:decide (op < 1)=false:=decide_eq_false ho1
       by_cases ho3:3 < op
       ·have e2:decide (3 < op)=true:=decide_eq_true ho3
        have HC4:Hid (chkS n L=4):=HB4.out (by have:chk op=4:=if_neg (fun h=>by omega);rw [this];rfl)
        clear ho1 ho3
        go_wp2_with fail
        exact hR.out _ _ (Gives.mk x4 (by first | (rw [HC4.out];done) | (rw [HC4.out];rfl)))
       ·have e2:decide (3 < op)=false:=decide_eq_false ho3
        have hck:chk op=0:=if_pos ⟨by omega,by omega⟩
        rw [hck] at HB4 HTK
        have HB5:Hid (outV n tl=true→chkS n L=4):=fun h=>HB4.out (by rw [h];rfl)
        have HT5:Hid (outV n tl=false→∀ a∈L.take (j+1),badA n a=false):=fun h=>HTK.out (by rw [h];rfl)
        clear ho1 ho3 hck HB4 HTK
        go_wp2_with fail
        go_loopw [36] (fun t wx=>∃ i:Nat,t=.int .i64 i∧i≤tl.length∧Ext w4 wx∧Hid (outV n (tl.take i)=false)) (fun t _=>tl.length - (intOf t).toNat)
        case atStart=>exact ⟨0,rfl,Nat.zero_le _,Ext.refl _,by rw [List.take_zero];rfl⟩
        case round=>
         clear k0 k1 k2 k3 k4
         obtain ⟨i,rfl,hi,hxr,hU⟩:=hrel
         have hlt:=HLT.out
         by_cases hil:i < tl.length
         ·have hd5:decide ((i:Int) < (tl.length:Int))=true:=decide_eq_true (by omega)
          have HI1:IntKind.i64.wrap ((i:Int)+1)=((i+1:Nat):Int):=by rw [IntKind.wrap_i64];omega
          have hI2:(0:Int)≤(i:Int)∧(i:Int) < (tl.length:Int):=⟨by omega,by omega⟩
          obtain ⟨b1,o1,cs,he,hcl,hT,hc⟩:=HRT.out.at (by decide) i hil
          obtain ⟨s,x,k1,m,y,k2,m2,rfl,hq⟩:=cells_TP hT
          subst he
          have hB:Att.Bo wr b1 (o1+i*4) [.int .i64 tl[i].1,.bool s,.slice x k1 m,.slice y k2 m2]:=fun i v hv=>by
           have:=hc i (by have:=(List.getElem?_eq_some_iff.1 hv).1;simpa using this)
           rw [hv] at this
           exact Ext.cell hxr this
          have u0:=hB 0 _ rfl
          have u1:=hB 1 _ rfl
          have u2:=hB 2 _ rfl
          have u3:=hB 3 _ rfl
          rw [Nat.add_zero] at u0
          have HTK:=Lib.hid (any_take (n:=n) hil)
          rw [gt_lt hil,hU.out,Bool.false_or] at HTK
          obtain ⟨w6,hw6,b6,c6,-,-⟩:=bx1 wr [.int .i64 tl[i].1,.bool s,.slice x k1 m,.slice y k2 m2] 87
          have HW:=Lib.hid hw6
          have C6:=Lib.hid c6
          clear hT hc hq hB hw6 c6
          generalize tl[i].1=z at*
          go_upto_region 13 with (fail)
          rw [← HW.out]
          clear HW u0 u1 u2 u3
          obtain ⟨g0,-,-,-⟩:=C6.out.c4
          by_cases hz1:z < 0
          ·have e4:decide (z < 0)=true:=decide_eq_true hz1
           have HC4:Hid (chkS n L=4):=HB5.out (outV_take (HTK.out.trans (by rw [e4];rfl)))
           clear hz1
           go_wp2_with fail
           exact hR.out _ _ (Gives.mk (Ext.trans x4 (Ext.trans hxr b6)) (by first | (rw [HC4.out];done) | (rw [HC4.out];rfl)))
          ·have e4:decide (z < 0)=false:=decide_eq_false hz1
           by_cases hz2:n≤z
           ·have e5:decide (n≤z)=true:=decide_eq_true hz2
            have HC4:Hid (chkS n L=4):=HB5.out (outV_take (HTK.out.trans (by rw [e5,Bool.or_true])))
            clear hz1
            go_wp2_with fail
            exact hR.out _ _ (Gives.mk (Ext.trans x4 (Ext.trans hxr b6)) (by first | (rw [HC4.out];done) | (rw [HC4.out];rfl)))
           ·have e5:decide (n≤z)=false:=decide_eq_false hz2
            have HT6:Hid (outV n (tl.take (i+1))=false):=HTK.out.trans (by rw [e4,e5];rfl)
            clear hz1 hz2
            go_wp2_with fail
            go_roundw
            case rel=>exact ⟨i+1,by go_num,by omega,Ext.trans hxr b6,HT6.out⟩
            case measure=>simp [intOf] <;> omega
         ·obtain rfl:i=tl.length:=by omega
          have hd5:decide ((tl.length:Int) < (tl.length:Int))=false:=decide_eq_false (by omega)
          rw [List.take_length] at hU
          go_wp2_with fail
          go_roundw
          case rel=>exact ⟨j+1,by go_num,by omega,Ext.trans hx (Ext.trans b4 hxr),HT5.out hU.out⟩
          case measure=>simp [intOf] <;> omega
     ·obtain rfl:j=L.length:=by omega
      have hd4:decide ((L.length:Int) < (L.length:Int))=false:=decide_eq_false (by omega)
      rw [List.take_length] at hO
      go_wp2_with fail
      exact hR.out _ _ (Gives.mk hx (by first | (rw [HGOOD.out hO.out];done) | (rw [HGOOD.out hO.out];rfl)))
end Go.Proofs.YthpaifdfafjlcaaGreat
