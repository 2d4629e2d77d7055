/- The walk of AttestSteps. -/
import Derived.Test.YtdooldpgnjmpfaaGreatDoorSq
import Derived.Test.YtdooldpgnjmpfaaGreatDoorPartAJ
import Derived.Test.YtdooldpgnjmpfaaGreatDoorPartDH
import Derived.Test.YtdooldpgnjmpfaaGreatDoorPTold14
import Derived.Test.YtdooldpgnjmpfaaGreatDoorPartDD
import Derived.Test.YtdooldpgnjmpfaaGreatDoorPartDE
namespace Go.Proofs.YtdooldpgnjmpfaaGreatDoor.attestSteps
open Go.ChangeShapes Go.WideShapes Go.ChangeAt Go.RowKit Go.Att

theorem nlt_of {n:NN} (h:bN n≤1048576):Nlt 1000000000 n:=by unfold bN at h;unfold Nlt;omega
theorem good_nil:GoodP kyA ⟨0,0,[],[]⟩ where
 R0:=by decide
 R1:=by decide
 B0:=by decide
 B1:=by decide
 na:=Nat.zero_le _
 nc:=Nat.zero_le _
 ga:=fun a h=>by cases h
 gk:=List.Pairwise.nil
 gc:=fun a h=>by cases h
 sz:=fun a h=>by cases h
set_option linter.unusedSimpArgs false in
set_option maxHeartbeats 60000000 in
set_option maxRecDepth 100000 in
theorem walk {w:World} {v0 v1 v2 v3:Value} {p0:Pq NAT} {l1:List (Sq NN)} {l2:List NN} {l3:List Bool} (h0:RdPq RdNA (RowT 1 IntT) w v0 p0) (z0:∀ c∈p0.2.2,∀ z∈c,In64 z) (b0:∀ a∈p0.2.1,bA a≤1048576)
  (h1:RdRow 5 (RdSq (RdRow 1 IntT) (RdRow 3 RdNp)) w v1 l1) (z1:∀ s∈l1,(∀ z∈s.1.2,In64 z)∧∀ z∈s.2.2.1,In64 z) (b1:∀ s∈l1,bS s≤1048576) (h2:RdRow 3 RdNp w v2 l2) (b2:∀ p∈l2,bN p≤1048576) (n2:l2.length≤1048576) (h3:RdB w v3 l3)
  (ht : Lib.TabIs Tryz.prog w "internal/strconv.uint64pow10" .u64 Lib.pow10Tab) :
  Calls Tryz.prog 3 #[v0,v1,v2,v3] w (Gives w fun v' _=>v'=.bool true):=by
 refine via fun R hR=>?_
 have HCK0:Hid (∀ w',Ext w w'→Calls Tryz.prog 4 #[.agg #[.int .i64 0,.int .i64 0,.slice none 0 0,.slice none 0 0],.slice none 0 0] w' (Gives w' fun v' _=>∃ i:Int,v'=.tuple #[.int .i64 i,.int .i64 7])):=fun w' x=>by
  refine (pcheck22_any (L:=[]) (OwnPq.rd (ownpq_nil w')) good_nil (OwnRow.nil 46 0 w').rd (fun s h=>by cases h) (Nat.zero_le _) (tab_ext ht x)).mono ?_
  rintro _ _ ⟨v,e,bb,i,e',rfl,hc⟩
  exact ⟨_,e,bb,i,by rw [hc.2 rfl]⟩
 have HOF:Hid (∀ w',Ext w w'→Calls Tryz.prog 6 #[v0] w' (Gives w' fun v' w'=>∃ x:Pq AT,OwnPq w' v' x∧x.2.1.length≤40∧x.2.2.length≤60∧(∀ a∈x.2.1,Smx a.1.1 a.1.2)∧∀ c∈x.2.2,c.length≤70∧∀ l∈c,In64 l)):=fun w' x=>
  of14_any (h0.ext RdNA.ext (fun h x=>RowT.ext h IntT.ext x) x) z0 fun a ha=>by
   have hb:=b0 a ha
   unfold bA at hb
   exact ⟨fun t ht=>nlt_of (by have:=mxl_in (t:=t) ht;omega),nlt_of (by omega)⟩
 have HPT:Hid (∀ w',Ext w w'→Calls Tryz.prog 8 #[v2] w' (Gives w' fun v' w'=>OwnRow 3 (OwnQp 119) 59 0 w' v' ((l2.take 6).map qN))):=fun w' x=>(point_any (h2.ext RdNp.ext x) fun p hp=>nlt_of (b2 p hp)).mono fun _ _ ⟨v,e,b,o⟩=>⟨v,e,b,OwnRow.mono o (Nat.zero_le _)⟩
 have HXS:Hid (∀ q∈(l2.take 6).map qN,Sz 8 q):=fun q hq=>by
  obtain ⟨n,hn,rfl⟩:=List.mem_map.1 hq
  obtain ⟨i,hi,rfl⟩:=List.getElem_of_mem (List.mem_of_mem_take hn)
  obtain ⟨a,c,he,-,-⟩:=h2.shape
  rw [he] at h2
  obtain ⟨b,o,cs,-,-,hT,-⟩:=h2.at (by decide) i hi
  exact qN_sz hT
 have HX6:Hid (((l2.take 6).map qN).length≤6):=by show _≤_;rw [List.length_map,List.length_take];omega
 have HO22:Hid (∀ w',Ext w w'→Calls Tryz.prog 9 #[v1] w' (Gives w' fun v' w'=>∃ L:List (Sq Rat),OwnRow 5 QnS 46 w.heap.size w' v' L∧L.length≤60∧∀ s∈L,SqOk s)):=fun w' x=>by
  refine (of22_any (h1.ext (fun h x=>RdSq.ext h (fun h x=>h.ext IntT.ext x) (fun h x=>h.ext RdNp.ext x) x) x) z1 fun s hs t ht=>nlt_of (Nat.le_trans (bS_in ht) (b1 s hs))).mono ?_
  rintro _ _ ⟨v,e,bb,L,o,h⟩
  exact ⟨v,e,bb,L,OwnRow.mono o (Below.size x),h⟩
 have H3:=Lib.hid h3
 have HT:=Lib.hid ht
 generalize (l2.take 6).map qN=X at*
 obtain ⟨a1,k1,rfl,-,-⟩:=h1.shape
 obtain ⟨a2,k2,rfl,-,-⟩:=h2.shape
 obtain ⟨a3,k3,rfl,-,-⟩:=h3.shape
 obtain ⟨aa,ca,aq,cq,rfl,-,-⟩:=h0
 clear z0 b0 h1 z1 b1 h2 b2 n2 h3 ht
 obtain ⟨⟨pR,pB⟩,ats,cls⟩:=p0
 dsimp only at*
 generalize l1.length=n1 at*
 generalize l2.length=n2 at*
 generalize ats.length=na at*
 generalize cls.length=nc at*
 obtain ⟨n3,hn3⟩:∃ n,l3.length=n:=⟨_,rfl⟩
 rw [hn3] at H3 ⊢
 clear hn3
 obtain ⟨w1,hw1,b1,c1,-,-⟩:=bx1 w [.int .i64 pR,.int .i64 pB,.slice aa na ca,.slice aq nc cq] 25
 have HW:=Lib.hid hw1
 have C1:=Lib.hid c1
 have B1:=Lib.hid b1
 clear hw1 c1 b1
 go_enter Tryz.func3,Tryz.ntmps3
 go_upto_region 1 with (fail)
 rw [← HW.out]
 clear HW
 go_upto_region 4 with (go_at_call 4;refine (HCK0.out _ B1.out).mono ?_;rintro e w2 ⟨_,rfl,X2,i2,rfl⟩;have X2:=Lib.hid X2)
 clear HCK0
 obtain ⟨k0,q1,q2,q3⟩:=(C1.out.ext X2.out).c4
 go_upto_region 5 with (first | (go_at_call 6;refine (HOF.out _ (Ext.trans B1.out X2.out)).mono ?_;rintro e w3 ⟨v3,rfl,X3,x,hx,x40,x60,xsm,xcl⟩;have X3:=Lib.hid X3;have HX:=Lib.hid hx;have HXA:=Lib.hid x40;have HXC:=Lib.hid x60;have HXM:=Lib.hid xsm;have HXL:=Lib.hid xcl;clear hx x40 x60 xsm xcl) | (go_at_call 5;refine (tidy_any (OwnPq.rd HX.out) HXA.out HXC.out HXM.out HXL.out (tab_ext HT.out (Ext.trans B1.out (Ext.trans X2.out X3.out)))).mono ?_;rintro e w4 ⟨_,rfl,X4,u,te,rfl,y,hy,hgy⟩;have X4:=Lib.hid X4;have HGY:=Lib.hid hgy;obtain ⟨y1,y2,y3,y4,rfl,hy5,hy6⟩:=hy;have HY5:=Lib.hid hy5;have HY6:=Lib.hid hy6;obtain ⟨w5,hw5,b5,c5,-,-⟩:=bx1 w4 [.int .i64 y.1.1,.int .i64 y.1.2,.slice y1 y.2.1.length y2,.slice y3 y.2.2.length y4] 34;have HW:=Lib.hid hw5;have C5:=Lib.hid c5;have B5:=Lib.hid b5;clear hw5 c5 b5 hy5 hy6 hgy))
 rw [← HW.out]
 clear HW k0 q1 q2 q3 HX HXA HXC HXM HXL HOF
 have X05:=Lib.hid (Ext.trans B1.out (Ext.trans X2.out (Ext.trans X3.out (Ext.trans X4.out B5.out))))
 by_cases hte:te=0
 ·subst hte
  have HG:=Lib.hid (HGY.out rfl)
  have HPQ:Hid (RdPq OwnA (RowT 1 IntT) w5 (.agg #[.int .i64 y.1.1,.int .i64 y.1.2,.slice y1 y.2.1.length y2,.slice y3 y.2.2.length y4]) y):=⟨y1,y2,y3,y4,rfl,HY5.out.rd.ext OwnAt.ext B5.out,(RdRow.mono HY6.out.rd fun _ _ h=>RowY.rd h).ext (fun h x=>RowT.ext h IntT.ext x) B5.out⟩
  have HHO:Hid (∀ w' vx,Ext w5 w'→RdRow 3 (OwnQp 119) w' vx X→Calls Tryz.prog 7 #[.agg #[.int .i64 y.1.1,.int .i64 y.1.2,.slice y1 y.2.1.length y2,.slice y3 y.2.2.length y4],vx,.slice a3 n3 k3] w' (Gives w' fun v' _=>v'=.tuple #[.bool (holdsP (pbQ y) l3 X),.int .i64 0])):=fun w' vx x hx=>
   smtholds_any (HPQ.out.ext OwnAt.ext (fun h x=>RowT.ext h IntT.ext x) x) HG.out (tab_ext HT.out (Ext.trans X05.out x)) hx HXS.out (H3.out.ext (Ext.trans X05.out x))
  have HFW:Hid (∀ w' vl L,Ext w5 w'→RdRow 5 QnS w' vl L→(∀ s∈L,SqOk s)→L.length≤60→Calls Tryz.prog 10 #[.agg #[.int .i64 y.1.1,.int .i64 y.1.2,.slice y1 y.2.1.length y2,.slice y3 y.2.2.length y4],vl] w' (Gives w' fun v' _=>∃ i e:Int,v'=.tuple #[.int .i64 i,.int .i64 e]∧FollowR (pbQ y) L i e)):=fun w' vl L x h hs hn=>follow_any (HPQ.out.ext OwnAt.ext (fun h x=>RowT.ext h IntT.ext x) x) HG.out h hs hn (tab_ext HT.out (Ext.trans X05.out x))
  have HCW:Hid (∀ w' vl L,Ext w5 w'→RdRow 5 QnS w' vl L→(∀ s∈L,SqOk s)→L.length≤60→Calls Tryz.prog 4 #[.agg #[.int .i64 y.1.1,.int .i64 y.1.2,.slice y1 y.2.1.length y2,.slice y3 y.2.2.length y4],vl] w' (Gives w' fun v' _=>∃ i e:Int,v'=.tuple #[.int .i64 i,.int .i64 e]∧CheckR (pbQ y) L e)):=fun w' vl L x h hs hn=>pcheck22_any (HPQ.out.ext OwnAt.ext (fun h x=>RowT.ext h IntT.ext x) x) HG.out h hs hn (tab_ext HT.out (Ext.trans X05.out x))
  have HTD:Hid (∀ w',Ext w5 w'→Calls Tryz.prog 12 #[.agg #[.int .i64 y.1.1,.int .i64 y.1.2,.slice y1 y.2.1.length y2,.slice y3 y.2.2.length y4]] w' (Gives w' fun v' w'=>RdPq OwnB9 (RowT 1 IntT) w' v' y)):=fun w' x=>told14_any (HPQ.out.ext OwnAt.ext (fun h x=>RowT.ext h IntT.ext x) x) (fun a ha=>(HG.out.sz a ha).sm) (by have:=HG.out.na;dsimp only at this;omega) HG.out.nc fun c hc=>by have:=(HG.out.gc c hc).2.2;omega
  have HH22:Hid (∀ w' vp vc vx c,Ext w5 w'→RdPq OwnB9 (RowT 1 IntT) w' vp y→RdRow 1 IntT w' vc c→(∀ l∈c,knownL (y.1.2+y.2.1.length) l)→c.length≤1000→RdRow 3 (OwnPp 4) w' vx X→Calls Tryz.prog 11 #[vp,vc,vx,.slice a3 n3 k3] w' (Gives w' fun v' _=>v'=.bool (clsT (valP (pbQ y) l3 X) c))):=fun w' vp vc vx c x hp hc hk hn hx=>
   holds22_any hp (fun h x=>RowT.ext h IntT.ext x) hc hk hn HG.out.B0 HG.out.B1 (by have:=HG.out.na;dsimp only at this;omega) (fun a ha=>⟨HG.out.sz a ha,(HG.out.ga a ha).1⟩) (fun a ha=>⟨(HG.out.ga a ha).2.1,(HG.out.ga a ha).2.2.1⟩) hx HXS.out HX6.out (H3.out.ext (Ext.trans X05.out x))
  have HOP:Hid (∀ a∈(pbQ y).ats,1≤a.2∧a.2≤3):=fun a ha=>⟨(HG.out.ga a ha).2.1,(HG.out.ga a ha).2.2.1⟩
  obtain ⟨P,hP⟩:∃ P,pbQ y=P:=⟨_,rfl⟩
  have HPB:Hid (P.B+(P.ats.length:Int)=y.1.2+y.2.1.length):=by rw [← hP];exact Lib.hid rfl
  rw [hP] at HHO HFW HCW HH22 HOP
  clear hP HG HGY HPQ HY5 HY6
  generalize y.1.1=yR at*
  generalize y.2.1.length=ya at*
  generalize y.2.2.length=yc at*
  generalize y.1.2=yB at*
  clear C1 B1 X2 X3 X4 B5
  go_upto_region 7 with fail
  have b6:=drew_ext w5
  have XE:=b6
  refine wp_region_noPanic ?_
  refine wp_region_held_drew (S:=fun w'=>w'.cell? ⟨w4.heap.size,0,none⟩=some (.int .i64 yR)∧w'.cell? ⟨w4.heap.size,1,none⟩=some (.int .i64 yB)∧w'.cell? ⟨w4.heap.size,2,none⟩=some (.slice y1 ya y2)∧w'.cell? ⟨w4.heap.size,3,none⟩=some (.slice y3 yc y4)) (by kernel_rfl) ((C5.out.ext XE).c4) (fun hHeld=>?_)
  refine tkH 0 hHeld ?_
  simp only [jP,jA,jB,jC,jD,jE,jF]
  refine tkH 1 hHeld ?_
  simp only [jP,jA,jB,jC,jD,jE,jF]
  refine tkH 3 hHeld ?_
  simp only [jP,jA,jB,jC,jD,jE,jF]
  refine rdH 2 (by kernel_rfl) rfl (fun K hK=>?_)
  go_simp
  go_at_call 8;refine (HPT.out _ (Ext.trans X05.out XE)).mono ?_;rintro e w7 ⟨v7,rfl,b7,o7⟩;have O7:=Lib.hid o7;clear o7;(first | have XE:=Ext.trans XE b7 | have XE:=Ext.trans (Ext.trans XE (Ext.alloc _ _)) b7);obtain ⟨ap,kp,he7,-,-⟩:=O7.out.rd.shape;subst he7
  go_wp2_with fail
  refine hK.out _ _ ((C5.out.ext XE).c4) (fun hHeld=>?_)
  clear hK K
  try simp only [jP,jA,jB,jC,jD,jE,jF]
  refine rdH 4 (by kernel_rfl) rfl (fun K hK=>?_)
  go_simp
  go_at_call 7;refine (HHO.out _ _ XE O7.out.rd).mono ?_;rintro e w8 ⟨_,rfl,b8,rfl⟩;(first | have XE:=Ext.trans XE b8 | have XE:=Ext.trans (Ext.trans XE (Ext.alloc _ _)) b8)
  go_wp2_with fail
  refine hK.out _ _ ((C5.out.ext XE).c4) (fun hHeld=>?_)
  clear hK K
  try simp only [jP,jA,jB,jC,jD,jE,jF]
  refine tkH 5 hHeld ?_
  simp only [jP,jA,jB,jC,jD,jE,jF]
  refine tkH 6 hHeld ?_
  simp only [jP,jA,jB,jC,jD,jE,jF]
  refine tkH 7 hHeld ?_
  simp only [jP,jA,jB,jC,jD,jE,jF]
  refine tkH 8 hHeld ?_
  simp only [jP,jA,jB,jC,jD,jE,jF]
  refine tkH 9 hHeld ?_
  simp only [jP,jA,jB,jC,jD,jE,jF]
  refine wpAnyH_done (by kernel_rfl) ?_ _
  refine NoPanic.normal ?_
  have X58:=Lib.hid XE
  clear O7 hHeld XE
  obtain ⟨hh,hhe⟩:∃ hh,holdsP P l3 X=hh:=⟨_,rfl⟩
  have HHH:=Lib.hid hhe
  rw [hhe]
  clear hhe HHO
  go_upto_region 9 with (go_at_call 9;refine (HO22.out _ (Ext.trans X05.out X58.out)).mono ?_;rintro e w9 ⟨v9,rfl,X9,L,hL,hL60,hLs⟩;obtain ⟨al,kl,rfl,hlk,hkm⟩:=hL.rd.shape;have HL:=Lib.hid hL;have HL60:=Lib.hid hL60;have HLS:=Lib.hid hLs;have HLK:=Lib.hid hlk;have X9:=Lib.hid X9;clear hL hL60 hLs hlk hkm)
  clear HO22
  have X59:=Lib.hid (Ext.trans X58.out X9.out)
  obtain ⟨k0,k1,k2,k3⟩:=(C5.out.ext X59.out).c4
  have HFC:=Lib.hid (HFW.out _ _ L X59.out HL.out.rd HLS.out HL60.out)
  obtain ⟨lL,hlL⟩:∃ n,L.length=n:=⟨_,rfl⟩
  have HLL:=Lib.hid hlL
  rw [hlL] at HL HLK HFC ⊢
  clear hlL HFW
  go_upto_region 10 with (go_at_call 10;refine HFC.out.mono ?_;rintro e w10 ⟨_,rfl,X10,i10,e10,rfl,hf⟩;have X10:=Lib.hid X10;have HF:=Lib.hid hf;clear hf)
  clear k0 k1 k2 k3 HFC
  have X510:=Lib.hid (Ext.trans X59.out X10.out)
  obtain ⟨k0,k1,k2,k3⟩:=(C5.out.ext X510.out).c4
  have HCC:Hid (Calls Tryz.prog 4 #[.agg #[.int .i64 yR,.int .i64 yB,.slice y1 ya y2,.slice y3 yc y4],.slice al lL kl] w10 (Gives w10 fun v' _=>∃ i e:Int,v'=.tuple #[.int .i64 i,.int .i64 e]∧CheckR P L e)):=HCW.out _ _ L X510.out (HL.out.rd.ext qns_ext X10.out) HLS.out HL60.out
  clear HCW
  go_upto_region 11 with (go_at_call 4;refine HCC.out.mono ?_;rintro e w11 ⟨_,rfl,X11,i11,g11,rfl,hc⟩;have X11:=Lib.hid X11;have HC:=Lib.hid hc;clear hc)
  clear k0 k1 k2 k3 HCC
  have X511:=Lib.hid (Ext.trans X510.out X11.out)
  obtain ⟨n,hn,hf0,hf1,hjs⟩:=HF.out
  have HN:Hid (n≤lL):=by rw [← HLL.out];exact hn
  have HF0:=Lib.hid hf0
  have HF1:=Lib.hid hf1
  have HSN:Hid (hh=true→∀ j (h:j < L.length),j < n→clsT (valP P l3 X) L[j].1.2=true∧∀ l∈L[j].1.2,knownL (yB+ya) l):=fun h0 j hj hjn=>by
   have h1:=steps_sound (bs:=l3) (xs:=X) HOP.out (by rw [HHH.out];exact h0) n hjs j hjn
   have h2:=(hjs j hjn).1
   rw [gt_stS hj] at h1 h2
   rw [HPB.out] at h2
   exact ⟨h1,h2⟩
  have HGN:Hid (hh=true→g11≠0):=fun h0 hg=>by
   obtain ⟨h1,j,hj,hem⟩:=HC.out.1 hg
   have h2:=steps_sound (bs:=l3) (xs:=X) HOP.out (by rw [HHH.out];exact h0) L.length h1 j hj
   rw [gt_stS hj] at h2
   have h3:(stS L[j]).c=[]:=hem
   rw [h3] at h2
   exact absurd h2 (by show ¬ (false=true);decide)
  clear HF HC hn hf0 hf1 hjs HOP HHH
  go_upto_region 11 with fail
  go_cut [66] (fun s66 wx=>s66=.bool false∧w11=wx)
  case first=>
   by_cases he:e10=0
   ·have hi:=(HF0.out he).1
    subst he hi
    go_wp2_with fail
    go_meet
    exact ⟨rfl,rfl⟩
   ·have e0:(e10 == 0)=false:=beq_false_of_ne he
    have e0':decide (e10=0)=false:=decide_eq_false he
    go_wp2_with fail
    go_meet
    exact ⟨rfl,rfl⟩
  case rest=>
   obtain ⟨rfl,rfl⟩:=hcut
   have X011:=Lib.hid (Ext.trans X05.out X511.out)
   cases hh with
   | false=>
    go_wp2_with fail
    exact hR.out _ _ (Gives.mk X011.out rfl)
   | true=>
    have HS2:=Lib.hid (HSN.out rfl)
    have HG2:=Lib.hid (HGN.out rfl)
    clear HSN HGN
    go_upto_if 70 with fail
    go_cut [14] (fun s14 wx=>s14=.int .i64 n∧w11=wx)
    case first=>
     by_cases he:e10=0
     ·have hi:=(HF0.out he).2
      have hi2:(lL:Int)=(n:Int):=by rw [hi,HLL.out]
      subst he
      go_wp2_with fail
      go_meet
      exact ⟨by first | exact congrArg (Value.int .i64) hi2 | (rw [hi];rfl) | rw [hi],rfl⟩
     ·have e0:(e10 == 0)=false:=beq_false_of_ne he
      have e0':decide (e10=0)=false:=decide_eq_false he
      have hi:=(HF1.out he).1
      subst hi
      go_wp2_with fail
      go_meet
      exact ⟨rfl,rfl⟩
    case rest=>
     obtain ⟨rfl,rfl⟩:=hcut
     have d1:decide ((n:Int) > (lL:Int))=false:=decide_eq_false (by have:=HN.out;omega)
     have d1':decide ((lL:Int) < (n:Int))=false:=decide_eq_false (by have:=HN.out;omega)
     have d1'':decide (lL < n)=false:=decide_eq_false (by have:=HN.out;omega)
     have d2:decide ((n:Int) < 0)=false:=decide_eq_false (by omega)
     have hnk:n≤kl:=by have:=HN.out;have:=HLK.out;omega
     have hnk2:(n:Int)≤(kl:Int):=by omega
     have hnk3:(0:Int)≤(n:Int):=by omega
     go_upto_region 20 with fail
     clear d1 d1' d1'' d2 hnk2 hnk3
     go_loopw [85] (fun t wr=>∃ j:Nat,t=.int .i64 j∧j≤n∧Hid (Ext w11 wr)) (fun t _=>n - (intOf t).toNat)
     case atStart=>exact ⟨0,rfl,Nat.zero_le _,Lib.hid (Ext.refl _)⟩
     case round=>
      obtain ⟨j,rfl,hj,hX⟩:=hrel
      obtain ⟨w12,hw12⟩:∃ w0:World,w0=wr:=⟨_,rfl⟩
      subst hw12
      by_cases hjn:j < n
      ·have hd:decide ((j:Int) < (n:Int))=true:=decide_eq_true (by omega)
       have HJ1:IntKind.i64.wrap ((j:Int)+1)=((j+1:Nat):Int):=by have h1:=HN.out;have h2:=HLL.out;have h3:=HL60.out;rw [IntKind.wrap_i64];omega
       have HJ2:(0:Int)≤(j:Int)∧(j:Int) < (n:Int):=⟨by omega,by omega⟩
       have hjl:j < L.length:=by rw [HLL.out];have:=HN.out;omega
       have X912:=Lib.hid (Ext.trans X10.out (Ext.trans X11.out hX.out))
       obtain ⟨bS,oS,x5,k5,y5,m5,z5,j5,hae,hbo,hq1,-,-⟩:=(HL.out.rd.ext qns_ext X912.out).sq j hjl
       subst hae
       obtain ⟨u0,u1,u2,u3,u4⟩:=hbo.c5
       have HSJ:=Lib.hid (HS2.out j hjl hjn)
       have HLJ:=Lib.hid (HLS.out _ (List.getElem_mem hjl)).1
       have HQ1:=Lib.hid hq1.1
       generalize L[j].1.1=r9 at*
       generalize L[j].2.1=i9 at*
       generalize L[j].2.2.1.length=p9 at*
       generalize L[j].2.2.2.length=t9 at*
       generalize L[j].1.2=c9 at*
       clear hbo hq1 hjl
       obtain ⟨lc,hlc⟩:∃ m,c9.length=m:=⟨_,rfl⟩
       rw [hlc] at u1 HQ1
       have HLC:=Lib.hid hlc
       clear hlc
       obtain ⟨w13,hw13,b13,c13,-,-⟩:=bx1 w12 [.int .i64 r9,.slice x5 lc k5,.int .i64 i9,.slice y5 p9 m5,.slice z5 t9 j5] 46
       have HW:=Lib.hid hw13
       have C13:=Lib.hid c13
       have B13:=Lib.hid b13
       clear hw13 c13 b13
       go_upto_region 22 with fail
       rw [← HW.out]
       clear HW u0 u1 u2 u3 u4
       have X1113:=Lib.hid (Ext.trans hX.out B13.out)
       have X513:=Lib.hid (Ext.trans X511.out X1113.out)
       have X013:=Lib.hid (Ext.trans X011.out X1113.out)
       have C513:=Lib.hid (C5.out.ext X513.out)
       have HQ13:=Lib.hid (HQ1.out.ext IntT.ext B13.out)
       have b14:=drew_ext w13
       have XE:=b14
       refine wp_region_noPanic ?_
       refine wp_region_held_drew (S:=fun w'=>(w'.cell? ⟨w4.heap.size,0,none⟩=some (.int .i64 yR)∧w'.cell? ⟨w4.heap.size,1,none⟩=some (.int .i64 yB)∧w'.cell? ⟨w4.heap.size,2,none⟩=some (.slice y1 ya y2)∧w'.cell? ⟨w4.heap.size,3,none⟩=some (.slice y3 yc y4))∧(w'.cell? ⟨w12.heap.size,0,none⟩=some (.int .i64 r9)∧w'.cell? ⟨w12.heap.size,1,none⟩=some (.slice x5 lc k5)∧w'.cell? ⟨w12.heap.size,2,none⟩=some (.int .i64 i9)∧w'.cell? ⟨w12.heap.size,3,none⟩=some (.slice y5 p9 m5)∧w'.cell? ⟨w12.heap.size,4,none⟩=some (.slice z5 t9 j5))) (by kernel_rfl) (⟨(C513.out.ext XE).c4,(C13.out.ext XE).c5⟩) (fun hHeld=>?_)
       refine tkH 0 hHeld ?_
       simp only [jP,jA,jB,jC,jD,jE,jF]
       refine tkH 2 hHeld ?_
       simp only [jP,jA,jB,jC,jD,jE,jF]
       refine tkH 3 hHeld ?_
       simp only [jP,jA,jB,jC,jD,jE,jF]
       refine tkH 4 hHeld ?_
       simp only [jP,jA,jB,jC,jD,jE,jF]
       refine tkH 7 hHeld ?_
       simp only [jP,jA,jB,jC,jD,jE,jF]
       refine rdH 1 (by kernel_rfl) rfl (fun K hK=>?_)
       go_simp
       go_at_call 12;refine (HTD.out _ (Ext.trans X513.out XE)).mono ?_;rintro e w15 ⟨v15,rfl,b15,o15⟩;have O15:=Lib.hid o15;clear o15;(first | have XE:=Ext.trans XE b15 | have XE:=Ext.trans (Ext.trans XE (Ext.alloc _ _)) b15)
       go_wp2_with fail
       refine hK.out _ _ (⟨(C513.out.ext XE).c4,(C13.out.ext XE).c5⟩) (fun hHeld=>?_)
       clear hK K
       try simp only [jP,jA,jB,jC,jD,jE,jF]
       refine rdH 5 (by kernel_rfl) rfl (fun K hK=>?_)
       go_simp
       go_at_call 8;refine (HPT.out _ (Ext.trans X013.out XE)).mono ?_;rintro e w16 ⟨v16,rfl,b16,o16⟩;have O16:=Lib.hid o16;clear o16;(first | have XE:=Ext.trans XE b16 | have XE:=Ext.trans (Ext.trans XE (Ext.alloc _ _)) b16)
       go_wp2_with fail
       refine hK.out _ _ (⟨(C513.out.ext XE).c4,(C13.out.ext XE).c5⟩) (fun hHeld=>?_)
       clear hK K
       try simp only [jP,jA,jB,jC,jD,jE,jF]
       refine rdH 6 (by kernel_rfl) rfl (fun K hK=>?_)
       go_simp
       go_at_call 13;refine (nums_any (RdRow.mono O16.out.rd fun _ _ h=>OwnQ.rd h) (fun q hq=>(HXS.out q hq).le (by decide)) (by have:=HX6.out;omega)).mono ?_;rintro e w17 ⟨v17,rfl,b17,o17⟩;have O17:=Lib.hid o17;clear o17;(first | have XE:=Ext.trans XE b17 | have XE:=Ext.trans (Ext.trans XE (Ext.alloc _ _)) b17)
       go_wp2_with fail
       refine hK.out _ _ (⟨(C513.out.ext XE).c4,(C13.out.ext XE).c5⟩) (fun hHeld=>?_)
       clear hK K
       try simp only [jP,jA,jB,jC,jD,jE,jF]
       refine rdH 8 (by kernel_rfl) rfl (fun K hK=>?_)
       go_simp
       go_at_call 11;refine (HH22.out _ _ _ _ c9 (Ext.trans X513.out XE) (O15.out.ext OwnBt.ext (fun h x=>RowT.ext h IntT.ext x) (Ext.trans b16 b17)) (HQ13.out.ext IntT.ext XE) HSJ.out.2 (by have:=HLJ.out;omega) O17.out.rd).mono ?_;rintro e w18 ⟨_,rfl,b18,rfl⟩;(first | have XE:=Ext.trans XE b18 | have XE:=Ext.trans (Ext.trans XE (Ext.alloc _ _)) b18)
       go_wp2_with fail
       refine hK.out _ _ (⟨(C513.out.ext XE).c4,(C13.out.ext XE).c5⟩) (fun hHeld=>?_)
       clear hK K
       try simp only [jP,jA,jB,jC,jD,jE,jF]
       refine tkH 9 hHeld ?_
       simp only [jP,jA,jB,jC,jD,jE,jF]
       refine wpAnyH_done (by kernel_rfl) ?_ _
       refine NoPanic.normal ?_
       rw [HSJ.out.1]
       go_wp2_with fail
       go_roundw
       case rel=>exact ⟨j+1,by go_num,by omega,Ext.trans X1113.out XE⟩
       case measure=>simp [intOf] <;> omega
      ·obtain rfl:j=n:=by omega
       have hd:decide ((j:Int) < (j:Int))=false:=decide_eq_false (by omega)
       have dg:(g11 != 0)=true:=bneT HG2.out
       go_wp2_with fail
       exact hR.out _ _ (Gives.mk (Ext.trans X011.out hX.out) rfl)
 ·have d0:(te != 0)=true:=bneT hte
  clear hte
  go_wp2_with fail
  exact hR.out _ _ (Gives.mk X05.out rfl)
end Go.Proofs.YtdooldpgnjmpfaaGreatDoor.attestSteps
