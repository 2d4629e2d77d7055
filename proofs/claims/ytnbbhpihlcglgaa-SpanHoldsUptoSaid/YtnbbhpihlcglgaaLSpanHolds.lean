/- SpanHolds: the ranges behind every layer hold what stands there, whatever comes in from the given ranges. Conditions: the arguments hold together at most 1048576 values (the second form, Upto). -/
import Derived.Test.YtnbbhpihlcglgaaSq
import Derived.Test.YtnbbhpihlcglgaaFrameR
import Derived.Test.YtnbbhpihlcglgaaFrame15
import Derived.Test.YtnbbhpihlcglgaaPAwake17
import Derived.Test.YtnbbhpihlcglgaaNetPlain
import Derived.Test.YtnbbhpihlcglgaaPThrough
import Derived.Test.YtnbbhpihlcglgaaTraceAll
namespace Go.Proofs.Ytnbbhpihlcglgaa.spanHolds
open Go.ChangeShapes Go.WideShapes Go.ChangeAt Go.RowKit Go.Att

theorem meetN {w0 wv:World} {B:Nat} {z:Int} {a:Option Addr} {m c:Nat} (rB:Rt wv B 2 122) (hx:Ext w0 wv) (hB:w0.heap.size≤B):
  ∃ W,W=(wv.setCell ⟨B,0,none⟩ (.int .i64 z)).setCell ⟨B,1,none⟩ (.slice a m c)∧Ext w0 W∧Hid (Bx W B [.int .i64 z,.slice a m c])∧∀ n,OnNet wv (.agg #[.int .i64 z,.slice a m c]) n→RdNet RdNp W (.agg #[.int .i64 z,.slice a m c]) n:=
 ⟨Att.putL wv B 0 [.int .i64 z,.slice a m c],rfl,putL_below hB _ _ hx,Lib.hid (rB.putL_at [.int .i64 z,.slice a m c] rfl).1,fun n h=>by
  obtain ⟨a',he,h⟩:=h
  have h2:OnNet (Att.putL wv B 0 [.int .i64 z,.slice a m c]) (.agg #[.int .i64 z,.slice a m c]) n:=⟨a',he,h.putT rB (by decide) 0 [_,_] (fun _ _ h=>OwnLay.putT h rB (by decide) (by decide) (by decide) (by decide) 0 [_,_] fun _ _ h=>OwnN.putT h rB (by decide) 0 [_,_])⟩
  exact OwnNet.rd h2 fun _ _ h=>OwnN.rd h⟩
theorem in_sz {m:Nt Rat} {x:List (Rat × Rat)} (hl:lit m) (hs:∀ l∈m.2,SzL l) (hx:SzR 8 x) (he:thrE m x=0):0 < wds m.2 m.1∧(x.length:Int)=m.1∧(∀ s∈x,s.1≤s.2)∧∀ i,i≤m.2.length→SzR 1436 (xat m.2 x i):=by
 unfold thrE at he
 split at he
 ·rename_i h1
  split at he
  ·rename_i h2
   split at he
   ·rename_i h3
    exact ⟨h1,h2,h3,fun i hi=>(xat_sz h1 h2 hl.1 hl.2.2 hs hx i hi).le (cN_le3 (by have:=hl.2.1;omega))⟩
   ·cases he
  ·cases he
 ·cases he
theorem thrL_at {ls:List (Lay Rat)} {x:List (Rat × Rat)} {k i:Nat} (h:i < (thrL ls x k).length):(thrL ls x k)[i]=xat ls x i:=by
 have h2:(thrL ls x k)[i]?=some (xat ls x i):=by
  rw [show thrL ls x k=(List.range k).map (xat ls x) from rfl,List.getElem?_map,List.getElem?_range (by rw [thrL_len] at h;exact h)]
  rfl
 obtain ⟨_,h3⟩:=List.getElem?_eq_some_iff.1 h2
 exact h3
def atO (l:List NN):List NN:=(l.take 40).map oneN
def atQ (l:List NN):List Rat:=((atO l).take 34).map qN
theorem atO_nlt (l:List NN):∀ p∈atO l,Nlt 1000000000 p:=by
 intro p hp
 obtain ⟨q,-,rfl⟩:=List.mem_map.1 hp
 exact one_nlt _
theorem atQ_sz (l:List NN):∀ p∈atQ l,Sz 8 p:=by
 intro p hp
 obtain ⟨q,hq,rfl⟩:=List.mem_map.1 hp
 obtain ⟨r,-,rfl⟩:=List.mem_map.1 (List.mem_of_mem_take hq)
 exact one_sz _
theorem atQ_len (l:List NN):(atQ l).length≤34:=by
 unfold atQ
 rw [List.length_map,List.length_take]
 omega
theorem InR.snoc:∀ {x:List (Rat × Rat)} {p:List Rat} {s:Rat × Rat} {q:Rat},InR x p→s.1≤q→q≤s.2→InR (x ++ [s]) (p ++ [q])
 | [],[],_,_,_,h1,h2=>⟨⟨h1,h2⟩,trivial⟩
 | _ :: _,_ :: _,_,_,h,h1,h2=>⟨h.1,InR.snoc h.2 h1 h2⟩
 | [],_ :: _,_,_,h,_,_=>h.elim
 | _ :: _,[],_,_,h,_,_=>h.elim
theorem SzV.snoc {C:Nat} {p:List Rat} {q:Rat} (h:SzV C p) (hq:Sz C q):SzV C (p ++ [q]):=fun r hr=>(List.mem_append.1 hr).elim (fun h1=>h r h1) fun h1=>by rw [List.mem_singleton.1 h1];exact hq
set_option maxHeartbeats 40000000 in
set_option maxRecDepth 100000 in
set_option linter.unusedSimpArgs false in
theorem walk {w:World} {v0 v1 v2:Value} {n0:Nt NN} {l0:List (NN × NN)} {l2:List NN} (hv0:RdNet RdNp w v0 n0) (hv1:RdRow 6 RdNDp w v1 l0) (_:∀ p∈l0,bND p≤1048576) (_:l0.length≤1048576) (hv2:RdRow 3 RdNp w v2 l2) (_:∀ p∈l2,bN p≤1048576) (_:l2.length≤1048576):
  Calls Try.prog 14 #[v0,v1,v2] w (Gives w fun v' _=>v'=.bool true):=by
 refine via fun R hR=>?_
 have HV1:=Lib.hid hv1
 have HV2:=Lib.hid hv2
 obtain ⟨a0,c0,rfl,-,-,-⟩:=hv0.op
 obtain ⟨a1,c1,rfl,-,-⟩:=hv1.shape
 obtain ⟨a2,c2,rfl,-,-⟩:=hv2.shape
 have HLN:Hid (∀ w',Ext w w'→Calls Try.prog 70 #[.agg #[.int .i64 n0.1,.slice a0 n0.2.length c0]] w' (Gives w' fun v' w''=>∃ o b,v'=.tuple #[o,.bool b]∧(b=true↔lit n0)∧(b=true→OnNet w'' o (mapNet oneN n0))∧∃ z a m c,o=.agg #[.int .i64 z,.slice a m c])):=fun w' x=>light_any (hv0.ext RdNp.ext x)
 obtain ⟨w1,hw1,b1,k1,-,-⟩:=bx1 w [.int .i64 n0.1,.slice a0 n0.2.length c0] 122
 have HW:=Lib.hid hw1
 have R1:Hid (Rt w1 w.heap.size 2 122):=by
  show Rt _ _ _ _
  rw [hw1]
  exact Rt.new w [_,_] _
 obtain ⟨j0,j1⟩:=k1.c2
 clear hw1 k1 hv0 hv1 hv2
 go_enter Try.func14,Try.ntmps14
 go_upto_region 1 with (fail)
 rw [← HW.out]
 clear HW
 go_wp2_with fail
 refine (HLN.out _ b1).mono ?_
 rintro e w2 ⟨_,rfl,b2,o,b,rfl,hb,ho,z,a,m,c,rfl⟩
 clear j0 j1 HLN
 obtain ⟨_,_,j0,j1,g0,g1⟩:=(R1.out.ext b2).c2
 obtain ⟨W,hW,hXW,CW,HNW⟩:=meetN (z:=z) (a:=a) (m:=m) (c:=c) (R1.out.ext b2) (Ext.trans b1 b2) (Nat.le_refl _)
 have HW:=Lib.hid hW
 have HNN:=Lib.hid HNW
 clear hW HNW
 have HON:Hid (∀ w',Ext W w'→Calls Try.prog 71 #[.slice a1 l0.length c1] w' (Gives w' fun v' w'=>OwnRow 6 OnP 152 0 w' v' (spnO l0))):=fun w' x=>(ones17_any (HV1.out.ext RdNDp.ext (Ext.trans hXW x))).mono fun _ _ ⟨v,e,b,o⟩=>⟨v,e,b,o.mono (Nat.zero_le _)⟩
 have HOM:Hid (∀ w',Ext W w'→Calls Try.prog 77 #[.slice a2 l2.length c2] w' (Gives w' fun v' w'=>OwnRow 3 (OwnN 163) 25 0 w' v' (atO l2))):=fun w' x=>(ones15_any (HV2.out.ext RdNp.ext (Ext.trans hXW x))).mono fun _ _ ⟨v,e,b,o⟩=>⟨v,e,b,o.mono (Nat.zero_le _)⟩
 have HB:=Lib.hid hb
 have HO:=Lib.hid ho
 clear hb ho
 go_upto_region 2 with (fail)
 rw [← HW.out]
 clear HW j0 j1 g0 g1
 go_wp2_with fail
 refine (HON.out _ (Ext.refl _)).mono ?_
 rintro e w3 ⟨v3,rfl,b3,o3⟩
 have HL3:Hid (RdRow 6 RdNDp w3 v3 (spnO l0)):=RdRow.mono o3.rd fun _ _ h=>OwnNPp.rd h
 clear o3 HON
 obtain ⟨a3,k3,rfl,-,-⟩:=HL3.out.shape
 go_wp2_with fail
 refine (HOM.out _ b3).mono ?_
 rintro e w4 ⟨v4,rfl,b4,o4⟩
 have HL4:Hid (RdRow 3 RdNp w4 v4 (atO l2)):=RdRow.mono o4.rd fun _ _ h=>OwnN.rd h
 clear o4 HOM
 obtain ⟨a4,k4,rfl,-,-⟩:=HL4.out.shape
 by_cases hl:lit n0
 ·obtain rfl:b=true:=HB.out.2 hl
  have HN0:=Lib.hid (HNN.out _ (HO.out rfl))
  have HL0:Hid (lit n0):=hl
  clear HB HO hl HNN
  obtain ⟨m0,hm0⟩:∃ m0,netQ n0=m0:=⟨_,rfl⟩
  have HLM:Hid (lit m0):=by rw [← hm0];exact netQ_lit HL0.out
  have HSM:Hid (∀ l∈m0.2,SzL l):=by rw [← hm0];exact netQ_sz n0
  have HOF:Hid (∀ w',Ext W w'→Calls Try.prog 72 #[.agg #[.int .i64 z,.slice a m c]] w' (Gives w' fun v' w'=>∃ a' k',v'=.agg #[.int .i64 m0.1,.slice a' m0.2.length k']∧RdNet QnN w' v' m0)):=fun w' x=>(of15_any (HN0.out.ext RdNp.ext x) HL0.out.map (netO_nlt n0)).mono fun e w2 ⟨v,e,b,o⟩=>by
   have h:QnNet w2 v m0:=by rw [← hm0];exact o
   obtain ⟨a',k',hv,-,-,-⟩:=(OwnNet.rd h fun _ _ h=>h).op
   exact ⟨v,e,b,a',k',hv,OwnNet.rd h fun _ _ h=>h⟩
  clear hm0 HN0 HL0
  obtain ⟨x,hx⟩:∃ x,spnQ l0=x:=⟨_,rfl⟩
  have HXS:Hid (SzR 8 x):=by rw [← hx];exact spnQ_sz l0
  have HXL:Hid (x.length≤34):=by rw [← hx];exact spnQ_len l0
  have HLS:Hid (∀ w',Ext w3 w'→Calls Try.prog 16 #[.slice a3 (spnO l0).length k3] w' (Gives w' fun v' w'=>∃ a' k',v'=.slice a' x.length k'∧OwnRow 6 SnD 34 0 w' v' x)):=fun w' y=>(list17_any (HL3.out.ext RdNDp.ext y) (spnO_nlt l0)).mono fun e w2 ⟨v,e,b,o⟩=>by
   have h:OwnRow 6 SnD 34 0 w2 v x:=by rw [← hx];exact o.mono (Nat.zero_le _)
   obtain ⟨a',k',hv,-,-⟩:=h.rd.shape
   exact ⟨v,e,b,a',k',hv,h⟩
  clear hx HL3
  generalize (spnO l0).length=nl at*
  obtain ⟨xs,hxs⟩:∃ xs,atQ l2=xs:=⟨_,rfl⟩
  have HQS:Hid (∀ p∈xs,Sz 8 p):=by rw [← hxs];exact atQ_sz l2
  have HQL:Hid (xs.length≤34):=by rw [← hxs];exact atQ_len l2
  have HRT:Hid (∀ w',Ext w4 w'→Calls Try.prog 15 #[.slice a4 (atO l2).length k4] w' (Gives w' fun v' w'=>∃ a' k',v'=.slice a' xs.length k'∧OwnRow 3 QnN 32 0 w' v' xs)):=fun w' y=>(rats_any (HL4.out.ext RdNp.ext y) (atO_nlt l2)).mono fun e w2 ⟨v,e,b,o⟩=>by
   have h:OwnRow 3 QnN 32 0 w2 v xs:=by rw [← hxs];exact o.mono (Nat.zero_le _)
   obtain ⟨a',k',hv,-,-⟩:=h.rd.shape
   exact ⟨v,e,b,a',k',hv,h⟩
  clear hxs HL4
  generalize (atO l2).length=nq at*
  have CW4:=Lib.hid (CW.out.ext (Ext.trans b3 b4))
  obtain ⟨j0,j1⟩:=CW4.out.c2
  go_wp2_with fail
  refine (HOF.out _ (Ext.trans b3 b4)).mono ?_
  rintro e w5 ⟨_,rfl,b5,a5,k5,rfl,o5⟩
  clear j0 j1
  go_wp2_with fail
  refine (HLS.out _ (Ext.trans b4 b5)).mono ?_
  rintro e w6 ⟨_,rfl,b6,a6,k6,rfl,o6⟩
  go_wp2_with fail
  refine (through_any (o5.ext OwnQ.ext b6) o6.rd HLM.out HSM.out HXS.out HXL.out).mono ?_
  rintro e w7 ⟨_,rfl,b7,oT,rfl,hT0,hT1⟩
  clear o5 o6
  have HT0:=Lib.hid hT0
  have HT1:=Lib.hid hT1
  clear hT0 hT1
  have hb0:=Ext.trans hXW (Ext.trans b3 (Ext.trans b4 (Ext.trans b5 (Ext.trans b6 b7))))
  by_cases hE:thrE m0 x=0
  ·have hOT:=HT1.out hE
   obtain ⟨hwd,hxz,hxo,hsz⟩:=in_sz HLM.out HSM.out HXS.out hE
   have HWD:=Lib.hid hwd
   have HXZ:=Lib.hid hxz
   have HXO:=Lib.hid hxo
   have HSZ:=Lib.hid hsz
   rw [hE]
   clear hwd hxz hsz hxo HT0 HT1 hE
   have hl3:=HLM.out.2.1
   obtain ⟨aT,kT,rfl,-,-⟩:=hOT.rd.shape
   have HOT:=Lib.hid hOT
   clear hOT
   obtain ⟨nT,hnT⟩:∃ nT,(thrL m0.2 x (m0.2.length+1)).length=nT:=⟨_,rfl⟩
   have HNT:Hid (nT=m0.2.length+1):=by show _=_;rw [← hnT,thrL_len]
   rw [hnT] at HOT ⊢
   clear hnT
   have hq0:((nT:Int) == 0)=false:=beq_false_of_ne (by have:=HNT.out;omega)
   have HN0:(0:Int)≤0∧(0:Int) < (nT:Int):=⟨by omega,by have:=HNT.out;omega⟩
   have ht0:=thrL_at (ls:=m0.2) (x:=x) (k:=m0.2.length+1) (i:=0) (by rw [thrL_len];omega)
   rw [xat_zero] at ht0
   obtain ⟨bT,oT,p0,q0,haT,CT0,HR0⟩:=HOT.out.rd.rowOf 0 (by rw [thrL_len];omega) ht0
   subst haT
   have HRX:=Lib.hid HR0.rd
   clear ht0 HR0
   go_wp2_with fail
   refine (HRT.out _ (Ext.trans b5 (Ext.trans b6 b7))).mono ?_
   rintro e w8 ⟨_,rfl,b8,a8,k8,rfl,o8⟩
   have HRQ:=Lib.hid o8.rd
   clear o8 hq0
   go_upto_region 12 with (fail)
   go_cut [11] (fun s11 wx=>Ext w8 wx∧Hid (OwnRow 3 QnN 32 w8.heap.size wx s11 []))
   case first=>
    go_wp2_with fail
    go_meet
    exact ⟨Ext.alloc _ _,OwnRow.nilLit _ (Nat.le_refl _)⟩
   case rest=>
    obtain ⟨hX9,hO9⟩:=hcut
    obtain ⟨w9,hw9⟩:∃ w0:World,w0=wc:=⟨_,rfl⟩
    subst hw9
    have t0:=(CT0.out.ext (Ext.trans b8 hX9)).c1
    rw [Nat.add_zero] at t0
    go_wp2_with fail
    clear t0 HN0
    go_loopw [11,52] (fun vp t wr=>∃ (i:Nat) (ps:List Rat),t=.int .i64 i∧i≤x.length∧Hid (Ext w8 wr)∧Hid (OwnRow 3 QnN 32 w8.heap.size wr vp ps)∧Hid (InR (x.take i) ps∧SzV 8 ps)) (fun _ t _=>x.length - (intOf t).toNat)
    case atStart=>exact ⟨0,[],rfl,Nat.zero_le _,hX9,hO9,by rw [List.take_zero];exact ⟨trivial,fun _ h=>by cases h⟩⟩
    case round=>
     clear hX9 hO9
     obtain ⟨i,ps,rfl,hi,hX,hO,hP⟩:=hrel
     obtain ⟨wo,hwo⟩:∃ w0:World,w0=wr:=⟨_,rfl⟩
     subst hwo
     have hxl:=HXL.out
     have HPN:Hid (ps.length=i):=by have:=hP.out.1.len;rw [List.length_take] at this;show _=_;omega
     obtain ⟨ap,kp,hvp,-,-⟩:=hO.out.rd.shape
     generalize hnp:ps.length=np at hvp
     have HNP:=Lib.hid hnp
     clear hnp
     subst hvp
     by_cases hil:i < x.length
     ·have hd:decide ((i:Int) < (x.length:Int))=true:=decide_eq_true (by omega)
      have HJ1:IntKind.i64.wrap ((i:Int)+1)=((i+1:Nat):Int):=by rw [IntKind.wrap_i64];omega
      have HI2:(0:Int)≤(i:Int)∧(i:Int) < (x.length:Int):=⟨by omega,by omega⟩
      have hb8:=Ext.trans b8 hX.out
      obtain ⟨bB,oB,cs,hbe,hcl,hT,hc⟩:=(HRX.out.ext OwnD.ext hb8).at (by decide) i hil
      subst hbe
      obtain ⟨y0,y1,y2,y3,y4,y5,rfl,hq1,hq2⟩:=cells_DO hT
      obtain ⟨e0,e1,e2,e3,e4,e5⟩:=(Bo.of hc).c6
      obtain ⟨p1,p2,p3,p4,p5,p6,p7,rfl,rfl,rfl⟩:=RdQ.op3 hq1.rd
      obtain ⟨r1,r2,r3,r4,r5,r6,r7,rfl,rfl,rfl⟩:=RdQ.op3 hq2.rd
      obtain ⟨w10,hw10,b10,c10,-,-⟩:=bx1 wo [.bool p1,.slice p2 p3 p4,.slice p5 p6 p7,.bool r1,.slice r2 r3 r4,.slice r5 r6 r7] 34
      have HW10:=Lib.hid hw10
      have C10:=Lib.hid c10
      have HD:=Lib.hid (OwnD.ext (OwnD.mk6 hq1 hq2) b10)
      have HQ2:=Lib.hid (OwnQ.ext hq2 b10)
      have HTK:Hid (x.take (i+1)=x.take i ++ [x[i]]):=(List.take_append_getElem hil).symm
      have HS8:=Lib.hid (HXS.out _ (List.getElem_mem hil))
      have HSO:=Lib.hid (HXO.out _ (List.getElem_mem hil))
      clear hT hc hcl hq1 hq2 c10 hw10
      generalize x[i]=s at*
      go_upto_region 16 with (fail)
      rw [← HW10.out]
      clear HW10 e0 e1 e2 e3 e4 e5
      obtain ⟨e0,e1,e2,e3,e4,e5⟩:=C10.out.c6
      obtain ⟨w11,hw11,b11,-,-,-⟩:=bx1 w10 [.bool r1,.slice r2 r3 r4,.slice r5 r6 r7] 32
      have HBQ:=Lib.hid (Bq.box HQ2.out hw11)
      have HW11:=Lib.hid hw11
      clear hw11
      go_upto_region 17 with (fail)
      rw [← HW11.out]
      clear HW11 e0 e1 e2 e3 e4 e5
      have C11:=Lib.hid (C10.out.ext b11)
      have HD11:=Lib.hid (OwnD.ext HD.out b11)
      have hX11:=Ext.trans hX.out (Ext.trans b10 b11)
      have hsz10:wo.heap.size≤w10.heap.size:=Below.size b10
      go_cut [70] (fun s70 wx=>∃ bb:Bool,s70=.bool bb∧Ext w11 wx∧Hid (bb=true→∃ h:i < xs.length,s.1≤xs[i]∧xs[i]≤s.2))
      case first=>
       by_cases hix:i < xs.length
       ·have hd2:decide ((i:Int) < (xs.length:Int))=true:=decide_eq_true (by omega)
        have HI3:(0:Int)≤(i:Int)∧(i:Int) < (xs.length:Int):=⟨by omega,by omega⟩
        obtain ⟨bQ,oQ,cs',hbe',hcl',hT',hc'⟩:=(HRQ.out.ext OwnQ.ext hX11).at (by decide) i hix
        subst hbe'
        obtain ⟨d1,d2,d3,d4,rfl⟩:=cells_Q (OwnQ.rd hT')
        have CX:Hid (Bo w11 bQ (oQ+i*3) [.bool (decide (xs[i].num < 0)),.slice d1 (limbs xs[i].num.natAbs).length d2,.slice d3 (dens xs[i].den).length d4]):=Bo.of hc'
        have HXE:Hid (OwnQ 163 0 w11 (.agg #[.bool (decide (xs[i].num < 0)),.slice d1 (limbs xs[i].num.natAbs).length d2,.slice d3 (dens xs[i].den).length d4]) xs[i]):=hT'
        have HSX:=Lib.hid (HQS.out _ (List.getElem_mem hix))
        obtain ⟨bb,hbb⟩:∃ bb,(decide ((s.1 - xs[i]).num.sign≤0) && decide ((xs[i] - s.2).num.sign≤0))=bb:=⟨_,rfl⟩
        have HHB:Hid (bb=true→∃ h:i < xs.length,s.1≤xs[i]∧xs[i]≤s.2):=fun h=>by
         rw [← hbb,Bool.and_eq_true,decide_eq_true_eq,decide_eq_true_eq] at h
         exact ⟨hix,sign_le.1 h.1,sign_le.1 h.2⟩
        have HHA:Hid (∀ w',Ext w11 w'→Calls Try.prog 27 #[.agg #[.bool p1,.slice p2 p3 p4,.slice p5 p6 p7,.bool r1,.slice r2 r3 r4,.slice r5 r6 r7],.agg #[.bool (decide (xs[i].num < 0)),.slice d1 (limbs xs[i].num.natAbs).length d2,.slice d3 (dens xs[i].den).length d4]] w' (Gives w' fun v' _=>v'=.bool bb)):=fun w' y=>by
         have h:=shas_any (RdD.ext HD11.out.rd y) (RdQ.ext HXE.out.rd y) (HS8.out.1.le (by decide)) (HS8.out.2.le (by decide)) (HSX.out.le (by decide))
         rw [hbb] at h
         exact h
        clear hT' hc' hcl' hbb
        generalize Value.bool (decide (xs[i].num < 0))=f0 at*
        generalize Value.slice d1 (limbs xs[i].num.natAbs).length d2=f1 at*
        generalize Value.slice d3 (dens xs[i].den).length d4=f2 at*
        have b12:=drew_ext w11
        have XE:=b12
        refine wp_region_noPanic ?_
        refine wp_region_held_drew (S:=fun w'=>(w'.cell? ⟨wo.heap.size,0,none⟩=some (.bool p1)∧w'.cell? ⟨wo.heap.size,1,none⟩=some (.slice p2 p3 p4)∧w'.cell? ⟨wo.heap.size,2,none⟩=some (.slice p5 p6 p7)∧w'.cell? ⟨wo.heap.size,3,none⟩=some (.bool r1)∧w'.cell? ⟨wo.heap.size,4,none⟩=some (.slice r2 r3 r4)∧w'.cell? ⟨wo.heap.size,5,none⟩=some (.slice r5 r6 r7))∧(w'.cell? ⟨bQ,oQ+i*3,none⟩=some (f0)∧w'.cell? ⟨bQ,oQ+i*3+1,none⟩=some (f1)∧w'.cell? ⟨bQ,oQ+i*3+2,none⟩=some (f2))) (by kernel_rfl) (⟨(C11.out.ext XE).c6,(CX.out.ext XE).c3⟩) (fun hHeld=>?_)
        refine tkH 0 hHeld ?_
        simp only [jP,jA,jB,jC,jD,jE,jF]
        refine tkH 1 hHeld ?_
        simp only [jP,jA,jB,jC,jD,jE,jF]
        refine tkH 2 hHeld ?_
        simp only [jP,jA,jB,jC,jD,jE,jF]
        refine tkH 3 hHeld ?_
        simp only [jP,jA,jB,jC,jD,jE,jF]
        try simp only [hd2,hd2n]
        refine tkH 4 hHeld ?_
        simp only [jP,jA,jB,jC,jD,jE,jF]
        refine tkH 5 hHeld ?_
        simp only [jP,jA,jB,jC,jD,jE,jF]
        refine tkH 6 hHeld ?_
        simp only [jP,jA,jB,jC,jD,jE,jF]
        refine tkH 7 hHeld ?_
        simp only [jP,jA,jB,jC,jD,jE,jF]
        refine tkH 8 hHeld ?_
        simp only [jP,jA,jB,jC,jD,jE,jF]
        refine tkH 9 hHeld ?_
        simp only [jP,jA,jB,jC,jD,jE,jF]
        refine rdH 10 (by kernel_rfl) rfl (fun K hK=>?_)
        go_simp
        go_at_call 27;refine (HHA.out _ XE).mono ?_;rintro e w13 ⟨_,rfl,b13,rfl⟩;(first | have XE:=Ext.trans XE b13 | have XE:=Ext.trans (Ext.trans XE (Ext.alloc _ _)) b13)
        go_wp2_with fail
        refine hK.out _ _ (⟨(C11.out.ext XE).c6,(CX.out.ext XE).c3⟩) (fun hHeld=>?_)
        clear hK K
        try simp only [jP,jA,jB,jC,jD,jE,jF]
        refine tkH 11 hHeld ?_
        simp only [jP,jA,jB,jC,jD,jE,jF]
        refine wpAnyH_done (by kernel_rfl) ?_ _
        refine NoPanic.normal ?_
        go_wp2_with fail
        go_meet
        exact ⟨_,rfl,XE,HHB⟩
       ·have hd2:decide ((i:Int) < (xs.length:Int))=false:=decide_eq_false (by omega)
        have hd2n:decide (i < xs.length)=false:=decide_eq_false hix
        clear hix
        have b12:=drew_ext w11
        have XE:=b12
        refine wp_region_noPanic ?_
        refine wp_region_held_drew (S:=fun w'=>w'.cell? ⟨wo.heap.size,0,none⟩=some (.bool p1)∧w'.cell? ⟨wo.heap.size,1,none⟩=some (.slice p2 p3 p4)∧w'.cell? ⟨wo.heap.size,2,none⟩=some (.slice p5 p6 p7)∧w'.cell? ⟨wo.heap.size,3,none⟩=some (.bool r1)∧w'.cell? ⟨wo.heap.size,4,none⟩=some (.slice r2 r3 r4)∧w'.cell? ⟨wo.heap.size,5,none⟩=some (.slice r5 r6 r7)) (by kernel_rfl) ((C11.out.ext XE).c6) (fun hHeld=>?_)
        refine tkH 0 hHeld ?_
        simp only [jP,jA,jB,jC,jD,jE,jF]
        refine tkH 1 hHeld ?_
        simp only [jP,jA,jB,jC,jD,jE,jF]
        refine tkH 2 hHeld ?_
        simp only [jP,jA,jB,jC,jD,jE,jF]
        refine tkH 3 hHeld ?_
        simp only [jP,jA,jB,jC,jD,jE,jF]
        try simp only [hd2,hd2n]
        refine tkH 4 hHeld ?_
        simp only [jP,jA,jB,jC,jD,jE,jF]
        refine wpAnyH_take (i:=5) rfl (by kernel_rfl) (by kernel_rfl) (by kernel_rfl) (fun _ _ _ h=>h) (Or.inr ⟨by rfl,rfl⟩) hHeld ?_
        simp only [jP,jA,jB,jC,jD,jE,jF]
        refine wpAnyH_take (i:=6) rfl (by kernel_rfl) (by kernel_rfl) (by kernel_rfl) (fun _ _ _ h=>h) (Or.inr ⟨by rfl,rfl⟩) hHeld ?_
        simp only [jP,jA,jB,jC,jD,jE,jF]
        refine wpAnyH_take (i:=7) rfl (by kernel_rfl) (by kernel_rfl) (by kernel_rfl) (fun _ _ _ h=>h) (Or.inr ⟨by rfl,rfl⟩) hHeld ?_
        simp only [jP,jA,jB,jC,jD,jE,jF]
        refine wpAnyH_take (i:=8) rfl (by kernel_rfl) (by kernel_rfl) (by kernel_rfl) (fun _ _ _ h=>h) (Or.inr ⟨by rfl,rfl⟩) hHeld ?_
        simp only [jP,jA,jB,jC,jD,jE,jF]
        refine wpAnyH_take (i:=9) rfl (by kernel_rfl) (by kernel_rfl) (by kernel_rfl) (fun _ _ _ h=>h) (Or.inr ⟨by rfl,rfl⟩) hHeld ?_
        simp only [jP,jA,jB,jC,jD,jE,jF]
        refine wpAnyH_take (i:=10) rfl (by kernel_rfl) (by kernel_rfl) (by kernel_rfl) (fun _ _ _ h=>h) (Or.inr ⟨by rfl,rfl⟩) hHeld ?_
        simp only [jP,jA,jB,jC,jD,jE,jF]
        refine tkH 11 hHeld ?_
        simp only [jP,jA,jB,jC,jD,jE,jF]
        refine wpAnyH_done (by kernel_rfl) ?_ _
        refine NoPanic.normal ?_
        go_wp2_with fail
        go_meet
        exact ⟨_,rfl,XE,fun h=>by cases h⟩
      case rest=>
       obtain ⟨bb,rfl,hX12,HBB⟩:=hcut
       obtain ⟨w12,hw12⟩:∃ w0:World,w0=wc:=⟨_,rfl⟩
       subst hw12
       have HBQ12:=Lib.hid (HBQ.out.ext hX12)
       have hX812:=Ext.trans hX11 hX12
       go_upto_if 70 with (fail)
       go_cut [14] (fun s14 wx=>s14=.pointer (some ⟨w10.heap.size,0,none⟩)∧∃ v:Rat,Ext w8 wx∧Ext wo wx∧Hid (Bq wx w10.heap.size v)∧Hid (s.1≤v∧v≤s.2∧Sz 8 v))
       case first=>
        cases bb with
        | true=>
         obtain ⟨hix,hlo,hhi⟩:=HBB.out rfl
         have HI3:(0:Int)≤(i:Int)∧(i:Int) < (xs.length:Int):=⟨by omega,by omega⟩
         obtain ⟨bQ,oQ,cs',hbe',hcl',hT',hc'⟩:=(HRQ.out.ext OwnQ.ext hX812).at (by decide) i hix
         subst hbe'
         obtain ⟨d1,d2,d3,d4,rfl⟩:=cells_Q (OwnQ.rd hT')
         obtain ⟨e0,e1,e2⟩:=(Bo.of hc').c3
         have HXE:Hid (OwnQ 163 0 w12 (.agg #[.bool (decide (xs[i].num < 0)),.slice d1 (limbs xs[i].num.natAbs).length d2,.slice d3 (dens xs[i].den).length d4]) xs[i]):=hT'
         have HSX:Hid (s.1≤xs[i]∧xs[i]≤s.2∧Sz 8 xs[i]):=⟨hlo,hhi,HQS.out _ (List.getElem_mem hix)⟩
         obtain ⟨_,_,_,_,_,_,_,-,T2,-⟩:=HBQ12.out.op
         obtain ⟨_,_,_,k0,k1,k2,i0,i1,i2⟩:=T2.out.rm.c3
         clear hT' hc' hcl' hlo hhi HBB
         generalize decide (xs[i].num < 0)=f0 at*
         generalize (limbs xs[i].num.natAbs).length=f1 at*
         generalize (dens xs[i].den).length=f2 at*
         generalize xs[i]=v at*
         go_wp2_with fail
         go_meet
         exact ⟨rfl,v,put3_below hX812 (Nat.le_trans (Below.size hX.out) hsz10) _ _ _,put3_below (Ext.trans b10 (Ext.trans b11 hX12)) hsz10 _ _ _,Bq.set T2.out HXE.out,HSX⟩
        | false=>
         go_wp2_with fail
         go_meet
         exact ⟨rfl,s.2,hX812,Ext.trans b10 (Ext.trans b11 hX12),HBQ12,HSO.out,Rat.le_refl,HS8.out.2⟩
       case rest=>
        obtain ⟨rfl,v,hX13,hXo,hQ,HV⟩:=hcut
        obtain ⟨w13,hw13⟩:∃ w0:World,w0=wc:=⟨_,rfl⟩
        subst hw13
        obtain ⟨s0,d1,n1,g1,d2,n2,g2,T1,-,T3⟩:=hQ.out.op
        obtain ⟨k0,k1,k2⟩:=T1.out.c3
        have hO13:=Lib.hid (hO.out.ext OwnQ.ext hXo)
        go_wp2_with (at_builtin;refine append_rowL (y:=v) etRats (kdQn (by decide)) (by rfl) _ _ (by rfl) w8.heap.size (by rfl) _ (by rfl) hO13.out rfl T3.out (Below.size hX13) (by have:=HPN.out;omega) (by have:=HPN.out;unfold maxLen;omega) ?_;intro v20 w20 o20 b20 g20)
        go_roundw
        case rel=>exact ⟨i+1,ps ++ [v],by go_num,by omega,Below.trans hX13 b20,o20,by rw [HTK.out];exact ⟨InR.snoc hP.out.1 HV.out.1 HV.out.2.1,SzV.snoc hP.out.2 HV.out.2.2⟩⟩
        case measure=>simp [intOf] <;> omega
     ·obtain rfl:i=x.length:=by omega
      have hd:decide ((x.length:Int) < (x.length:Int))=false:=decide_eq_false (by omega)
      rw [List.take_length] at hP
      have HIN:Hid (InR x ps):=hP.out.1
      have HPS:Hid (SzV 8 ps):=hP.out.2
      have hX9:=hX.out
      have HRP:=Lib.hid hO.out.rd
      have CW9:=Lib.hid (CW4.out.ext (Ext.trans (Ext.trans b5 (Ext.trans b6 (Ext.trans b7 b8))) hX9))
      obtain ⟨j0,j1⟩:=CW9.out.c2
      clear hP hO
      go_wp2_with fail
      refine (HOF.out _ (Ext.trans (Ext.trans b3 b4) (Ext.trans (Ext.trans b5 (Ext.trans b6 (Ext.trans b7 b8))) hX9))).mono ?_
      rintro e w10 ⟨_,rfl,b10,a10,k10,rfl,o10⟩
      clear j0 j1
      go_wp2_with fail
      refine (trace_any o10 (HRP.out.ext OwnQ.ext b10) HLM.out HSM.out HIN.out HWD.out HXZ.out HPS.out).mono ?_
      rintro e w11 ⟨_,rfl,b11,oG,rfl,oO⟩
      clear o10
      have HG:=Lib.hid oO
      obtain ⟨aG,kG,rfl,-,-⟩:=oO.rd.shape
      obtain ⟨nG,hnG⟩:∃ nG,(trcL m0.2 ps (m0.2.length+1)).length=nG:=⟨_,rfl⟩
      have HNG:nG=nT:=by rw [← hnG,trcL_len];exact HNT.out.symm
      rw [hnG] at HG ⊢
      clear hnG oO
      subst HNG
      have hnn:((nG:Int) != (nG:Int))=false:=bne_self_eq_false _
      go_wp2_with fail
      refine awake17.mono ?_
      rintro e w12 ⟨_,rfl,b12,rfl⟩
      go_wp2_with fail
      clear hnn
      go_loopw [102] (fun t wr=>∃ i:Nat,t=.int .i64 i∧i≤nG∧Hid (Ext w12 wr)) (fun t _=>nG - (intOf t).toNat)
      case atStart=>exact ⟨0,rfl,Nat.zero_le _,Ext.refl _⟩
      case round=>
       obtain ⟨i,rfl,hi,hX⟩:=hrel
       obtain ⟨w13,hw13⟩:∃ w0:World,w0=wr:=⟨_,rfl⟩
       subst hw13
       have hl3:=HLM.out.2.1
       have hnt:=HNT.out
       by_cases hil:i < nG
       ·have hd:decide ((i:Int) < (nG:Int))=true:=decide_eq_true (by omega)
        have HJ1:IntKind.i64.wrap ((i:Int)+1)=((i+1:Nat):Int):=by rw [IntKind.wrap_i64];omega
        have HI2:(0:Int)≤(i:Int)∧(i:Int) < (nG:Int):=⟨by omega,by omega⟩
        obtain ⟨_,_,p1,q1,hb1,CT,HRT1⟩:=(HOT.out.ext snr_ext (Ext.trans b8 (Ext.trans hX9 (Ext.trans (Ext.trans b10 (Ext.trans b11 b12)) hX.out)))).rd.rowOf i (by rw [thrL_len];omega) (thrL_at (by rw [thrL_len];omega))
        simp only [Option.some.injEq,Addr.mk.injEq,and_true] at hb1
        obtain ⟨rfl,rfl⟩:=hb1
        obtain ⟨bG,oG,p2,q2,hbG,CG,HRG1⟩:=(HG.out.ext qnw_ext (Ext.trans b12 hX.out)).rd.rowOf i (by rw [trcL_len];omega) (trcL_at (by rw [trcL_len];omega))
        subst hbG
        have HII:=Lib.hid (HIN.out.run (ls:=m0.2) i (by omega))
        have HZ1:Hid (SzR 1436 (xat m0.2 x i)):=HSZ.out i (by omega)
        have HZ2:Hid (SzV 1436 (vat m0.2 ps i)):=(vat_sz HWD.out HXZ.out HLM.out.1 HLM.out.2.2 HSM.out HIN.out HPS.out i (by omega)).le (cN_le3 (by omega))
        have HL0:=Lib.hid (xat_len HWD.out HXZ.out i (by omega))
        have HW4:Hid (wds (m0.2.take i) m0.1≤4):=wds_le HWD.out HLM.out.1 HLM.out.2.2 i (by omega)
        clear hnt hl3
        generalize xat m0.2 x i=y1 at*
        generalize vat m0.2 ps i=g1 at*
        have HGL:Hid (g1.length≤4):=by have h1:=HL0.out;have h2:=HW4.out;have h3:=HII.out.len;show _≤_;omega
        obtain ⟨ny,hny⟩:∃ ny,y1.length=ny:=⟨_,rfl⟩
        have HNY:Hid (ny=g1.length):=by show _=_;rw [← hny];exact HII.out.len
        rw [hny] at CT HRT1
        have HNY2:=Lib.hid hny
        clear hny
        obtain ⟨ng,hng⟩:∃ ng,g1.length=ng:=⟨_,rfl⟩
        rw [hng] at CG HRG1 HGL HNY
        have HNG2:=Lib.hid hng
        obtain rfl:=HNY.out
        clear hng HNY HL0 HW4
        have hne:((ny:Int) != (ny:Int))=false:=bne_self_eq_false _
        go_upto_region 27 with (fail)
        have b14:=drew_ext w13
        have XE:=b14
        refine wp_region_noPanic ?_
        refine wp_region_held_drew (S:=fun w'=>(w'.cell? ⟨bG,oG+i,none⟩=some (.slice p2 ny q2))∧(w'.cell? ⟨bT,oT+i,none⟩=some (.slice p1 ny q1))) (by kernel_rfl) (⟨(CG.out.ext XE).c1,(CT.out.ext XE).c1⟩) (fun hHeld=>?_)
        refine tkH 0 hHeld ?_
        simp only [jP,jA,jB,jC,jD,jE,jF]
        refine tkH 1 hHeld ?_
        simp only [jP,jA,jB,jC,jD,jE,jF]
        refine tkH 2 hHeld ?_
        simp only [jP,jA,jB,jC,jD,jE,jF]
        refine tkH 3 hHeld ?_
        simp only [jP,jA,jB,jC,jD,jE,jF]
        refine tkH 4 hHeld ?_
        simp only [jP,jA,jB,jC,jD,jE,jF]
        refine tkH 5 hHeld ?_
        simp only [jP,jA,jB,jC,jD,jE,jF]
        refine tkH 6 hHeld ?_
        simp only [jP,jA,jB,jC,jD,jE,jF]
        refine tkH 7 hHeld ?_
        simp only [jP,jA,jB,jC,jD,jE,jF]
        refine tkH 8 hHeld ?_
        simp only [jP,jA,jB,jC,jD,jE,jF]
        refine tkH 9 hHeld ?_
        simp only [jP,jA,jB,jC,jD,jE,jF]
        refine tkH 10 hHeld ?_
        simp only [jP,jA,jB,jC,jD,jE,jF]
        refine wpAnyH_done (by kernel_rfl) ?_ _
        refine NoPanic.normal ?_
        go_upto_region 29 with (fail)
        have CG1:=Lib.hid (CG.out.ext XE)
        have CT1:=Lib.hid (CT.out.ext XE)
        have c1:=CG1.out.c1
        go_wp2_with fail
        clear c1 hne
        go_loopw [121] (fun t wr=>∃ j:Nat,t=.int .i64 j∧j≤ny∧Hid (Ext w13 wr)) (fun t _=>ny - (intOf t).toNat)
        case atStart=>exact ⟨0,rfl,Nat.zero_le _,XE⟩
        case round=>
         clear XE CG1 CT1
         obtain ⟨j,rfl,hj,hX15⟩:=hrel
         obtain ⟨w15,hw15⟩:∃ w0:World,w0=wr:=⟨_,rfl⟩
         subst hw15
         have hgl:=HGL.out
         by_cases hjl:j < ny
         ·have hd1:decide ((j:Int) < (ny:Int))=true:=decide_eq_true (by omega)
          have HK1:IntKind.i64.wrap ((j:Int)+1)=((j+1:Nat):Int):=by rw [IntKind.wrap_i64];omega
          have HK2:(0:Int)≤(j:Int)∧(j:Int) < (ny:Int):=⟨by omega,by omega⟩
          have h1:j < y1.length:=by have:=HNY2.out;omega
          have h2:j < g1.length:=by have:=HNG2.out;omega
          obtain ⟨bY,oY,cs,hbe,hcl,hT,hc⟩:=(HRT1.rd.ext OwnD.ext hX15.out).at (by decide) j h1
          subst hbe
          obtain ⟨y0,y2,y3,y4,y5,y6,rfl,hq1,hq2⟩:=cells_DO hT
          have CY:Hid (Bo w15 bY (oY+j*6) [y0,y2,y3,y4,y5,y6]):=Bo.of hc
          have HD:=Lib.hid (OwnD.mk6 hq1 hq2)
          obtain ⟨bQ,oQ,cs',hbe',hcl',hT',hc'⟩:=(HRG1.rd.ext OwnQ.ext hX15.out).at (by decide) j h2
          subst hbe'
          obtain ⟨d1,d2,d3,d4,rfl⟩:=cells_Q (OwnQ.rd hT')
          have CX:Hid (Bo w15 bQ (oQ+j*3) [.bool (decide (g1[j].num < 0)),.slice d1 (limbs g1[j].num.natAbs).length d2,.slice d3 (dens g1[j].den).length d4]):=Bo.of hc'
          have HXE:Hid (OwnQ 163 0 w15 (.agg #[.bool (decide (g1[j].num < 0)),.slice d1 (limbs g1[j].num.natAbs).length d2,.slice d3 (dens g1[j].den).length d4]) g1[j]):=hT'
          have hin:=HII.out.at j h1 h2
          have hz1:=HZ1.out _ (List.getElem_mem h1)
          have hz2:=HZ2.out _ (List.getElem_mem h2)
          have HHA:Hid (∀ w',Ext w15 w'→Calls Try.prog 27 #[.agg #[y0,y2,y3,y4,y5,y6],.agg #[.bool (decide (g1[j].num < 0)),.slice d1 (limbs g1[j].num.natAbs).length d2,.slice d3 (dens g1[j].den).length d4]] w' (Gives w' fun v' _=>v'=.bool true)):=fun w' y=>by
           have h:=shas_any (RdD.ext HD.out.rd y) (RdQ.ext HXE.out.rd y) (hz1.1.le (by decide)) (hz1.2.le (by decide)) (hz2.le (by decide))
           rw [decide_eq_true (sign_le.2 hin.1),decide_eq_true (sign_le.2 hin.2)] at h
           exact h
          clear hT hc hcl hT' hc' hcl' hq1 hq2 hin hz1 hz2
          generalize Value.bool (decide (g1[j].num < 0))=f0 at*
          generalize Value.slice d1 (limbs g1[j].num.natAbs).length d2=f1 at*
          generalize Value.slice d3 (dens g1[j].den).length d4=f2 at*
          have CG2:=Lib.hid (CG.out.ext hX15.out)
          have CT2:=Lib.hid (CT.out.ext hX15.out)
          go_upto_region 32 with (fail)
          have b16:=drew_ext w15
          have XE:=b16
          refine wp_region_noPanic ?_
          refine wp_region_held_drew (S:=fun w'=>(w'.cell? ⟨bT,oT+i,none⟩=some (.slice (some ⟨bY,oY,none⟩) ny q1))∧(w'.cell? ⟨bY,oY+j*6,none⟩=some (y0)∧w'.cell? ⟨bY,oY+j*6+1,none⟩=some (y2)∧w'.cell? ⟨bY,oY+j*6+2,none⟩=some (y3)∧w'.cell? ⟨bY,oY+j*6+3,none⟩=some (y4)∧w'.cell? ⟨bY,oY+j*6+4,none⟩=some (y5)∧w'.cell? ⟨bY,oY+j*6+5,none⟩=some (y6))∧(w'.cell? ⟨bG,oG+i,none⟩=some (.slice (some ⟨bQ,oQ,none⟩) ny q2))∧(w'.cell? ⟨bQ,oQ+j*3,none⟩=some (f0)∧w'.cell? ⟨bQ,oQ+j*3+1,none⟩=some (f1)∧w'.cell? ⟨bQ,oQ+j*3+2,none⟩=some (f2))) (by kernel_rfl) (⟨(CT2.out.ext XE).c1,(CY.out.ext XE).c6,(CG2.out.ext XE).c1,(CX.out.ext XE).c3⟩) (fun hHeld=>?_)
          refine tkH 0 hHeld ?_
          simp only [jP,jA,jB,jC,jD,jE,jF]
          refine tkH 1 hHeld ?_
          simp only [jP,jA,jB,jC,jD,jE,jF]
          refine tkH 2 hHeld ?_
          simp only [jP,jA,jB,jC,jD,jE,jF]
          refine tkH 3 hHeld ?_
          simp only [jP,jA,jB,jC,jD,jE,jF]
          refine tkH 4 hHeld ?_
          simp only [jP,jA,jB,jC,jD,jE,jF]
          refine tkH 5 hHeld ?_
          simp only [jP,jA,jB,jC,jD,jE,jF]
          refine tkH 6 hHeld ?_
          simp only [jP,jA,jB,jC,jD,jE,jF]
          refine tkH 7 hHeld ?_
          simp only [jP,jA,jB,jC,jD,jE,jF]
          refine tkH 8 hHeld ?_
          simp only [jP,jA,jB,jC,jD,jE,jF]
          refine tkH 9 hHeld ?_
          simp only [jP,jA,jB,jC,jD,jE,jF]
          refine tkH 10 hHeld ?_
          simp only [jP,jA,jB,jC,jD,jE,jF]
          refine tkH 11 hHeld ?_
          simp only [jP,jA,jB,jC,jD,jE,jF]
          refine tkH 12 hHeld ?_
          simp only [jP,jA,jB,jC,jD,jE,jF]
          refine tkH 13 hHeld ?_
          simp only [jP,jA,jB,jC,jD,jE,jF]
          refine rdH 14 (by kernel_rfl) rfl (fun K hK=>?_)
          go_simp
          go_at_call 27;refine (HHA.out _ XE).mono ?_;rintro e w17 ⟨_,rfl,b17,rfl⟩;(first | have XE:=Ext.trans XE b17 | have XE:=Ext.trans (Ext.trans XE (Ext.alloc _ _)) b17)
          go_wp2_with fail
          refine hK.out _ _ (⟨(CT2.out.ext XE).c1,(CY.out.ext XE).c6,(CG2.out.ext XE).c1,(CX.out.ext XE).c3⟩) (fun hHeld=>?_)
          clear hK K
          try simp only [jP,jA,jB,jC,jD,jE,jF]
          refine tkH 15 hHeld ?_
          simp only [jP,jA,jB,jC,jD,jE,jF]
          refine wpAnyH_done (by kernel_rfl) ?_ _
          refine NoPanic.normal ?_
          go_wp2_with fail
          go_roundw
          case rel=>exact ⟨j+1,by go_num,by omega,Ext.trans hX15.out XE⟩
          case measure=>simp [intOf] <;> omega
         ·obtain rfl:j=ny:=by omega
          have hd1:decide ((j:Int) < (j:Int))=false:=decide_eq_false (by omega)
          go_wp2_with fail
          go_roundw
          case rel=>exact ⟨i+1,by go_num,by omega,Ext.trans hX.out hX15.out⟩
          case measure=>simp [intOf] <;> omega
       ·obtain rfl:i=nG:=by omega
        have hd:decide ((i:Int) < (i:Int))=false:=decide_eq_false (by omega)
        go_wp2_with fail
        exact hR.out _ _ (Gives.mk (Ext.trans hb0 (Ext.trans b8 (Ext.trans hX9 (Ext.trans (Ext.trans b10 (Ext.trans b11 b12)) hX.out)))) rfl)
  ·obtain ⟨E,hEE⟩:∃ E,thrE m0 x=E:=⟨_,rfl⟩
   rw [hEE] at hE HT0 ⊢
   have he0:(E != 0)=true:=by simp [hE]
   have hOT:=HT0.out hE
   subst hOT
   clear HT0 HT1 hE hEE
   go_wp2_with fail
   refine awake17.mono ?_
   rintro e w8 ⟨_,rfl,b8,rfl⟩
   go_wp2_with fail
   exact hR.out _ _ (Gives.mk (Ext.trans hb0 b8) rfl)
 ·obtain rfl:b=false:=by
   cases b with
   | false=>rfl
   | true=>exact absurd (HB.out.1 rfl) hl
  clear HB HO hl HNN
  generalize (spnO l0).length=nl at*
  generalize (atO l2).length=nq at*
  go_wp2_with fail
  refine awake17.mono ?_
  rintro e w5 ⟨_,rfl,b5,rfl⟩
  go_wp2_with fail
  exact hR.out _ _ (Gives.mk (Ext.trans hXW (Ext.trans b3 (Ext.trans b4 b5))) rfl)
theorem own:ownKnob Try.prog.godebug=none:=by kernel_rfl
theorem laidOut:laidOutB Try.prog=true:=by kernel_rfl

set_option maxRecDepth 100000 in
theorem contract (H:Type) (enc:TypeId × Value→H) (W:World) (base:Nat) (args:Array Value) (ds gs:List (DataW H)) (before:List MemPlace)
  (hval:∀ (j:Nat) t v,Try.f14.params[j]?=some t→args[j]?=some v→Value.okWide Try.prog W .any base t v)
  (hW:DataW.Whole enc Try.prog Try.f14.params.toList Rows.spanHoldsSpec.vars false W args.toList ds gs before) (hk:Rows.uptoSmall H (ds ++ gs)=true):
  Calls Try.prog 14 args W fun e W'=>∃ v,e=.returned v∧Rows.spanHoldsSpec.post enc Try.prog Try.f14 false true false false W args v W':=by
 have hW':=hW
 obtain ⟨p,q,hA0,hV,rfl,hfz,hnd⟩:=hW
 have hA:DataW.TrodAll enc Try.prog W 0 (fun _=>true) true Try.f14.params.toList args.toList ds p:=hA0
 rw [Try.params14] at hA hval
 obtain ⟨v0,vs0,d0,ds0,p0,q0,hargs,rfl,rfl,h0,r0⟩:=trodAll_cons hA
 obtain ⟨v1,vs1,d1,ds1,p1,q1,rfl,rfl,rfl,h1,r1⟩:=trodAll_cons r0
 obtain ⟨v2,vs2,d2,ds2,p2,q2,rfl,rfl,rfl,h2,r2⟩:=trodAll_cons r1
 obtain ⟨rfl,rfl,rfl⟩:=trodAll_nil r2
 obtain rfl:args=#[v0,v1,v2]:=by cases args;simp_all
 obtain ⟨rfl,rfl⟩:=trodVars_none hV
 have hb:=bulk_small hk
 simp only [List.append_nil,bulk_cons,bulk_nil] at hb
 have k0:=h0
 have lt0:∀ x∈p0,x.block < W.heap.size:=by obtain ⟨m,hm⟩:=k0;exact DataW.trod_lt m _ _ _ hm
 obtain ⟨n0,rd0⟩:=open_Net (hval 0 122 v0 rfl rfl) h0
 have k1:=h1
 have lt1:∀ x∈p1,x.block < W.heap.size:=by obtain ⟨m,hm⟩:=k1;exact DataW.trod_lt m _ _ _ hm
 obtain ⟨l1,rd1,bd1,len1⟩:=open_rowND Try.underlying26 Try.underlying152 rfl rfl rfl rfl (by kernel_rfl) (hval 1 26 v1 rfl rfl) h1
 have k2:=h2
 have lt2:∀ x∈p2,x.block < W.heap.size:=by obtain ⟨m,hm⟩:=k2;exact DataW.trod_lt m _ _ _ hm
 obtain ⟨l2,rd2,bd2,len2⟩:=open_rowN Try.underlying22 (hval 2 22 v2 rfl rfl) h2
 clear hA0
 refine (walk rd0 rd1 (fun p hp=>by have:=bd1 p hp;omega) (by omega) rd2 (fun p hp=>by have:=bd2 p hp;omega) (by omega)).mono fun e W' ⟨v,he,bel,hv⟩=>?_
 subst he hv
 exact ⟨_,rfl,_,_,_,[],_,[],hW',trodAll_mk1 (shut_bool Try.underlying4 _),(trodAll_cons_mk (Below.trod laidOut (by kernel_rfl) (of_decide_eq_true (by kernel_rfl)) k0 bel lt0) (trodAll_cons_mk (Below.trod laidOut (by kernel_rfl) (of_decide_eq_true (by kernel_rfl)) k1 bel lt1) (trodAll_cons_mk (Below.trod laidOut (by kernel_rfl) (of_decide_eq_true (by kernel_rfl)) k2 bel lt2) trodAll_mk0))),rfl,bel.frame _,fun h=>by cases h⟩

set_option maxRecDepth 100000 in
theorem lifted (os:Os) (started:os.Started) (H:Type) (enc:TypeId × Value→H) (F:Stop.Interp):
  ReturnsInHanded {} Try.checked os 14 .any ((Rows.OpenSpec.upto Rows.spanHoldsSpec).pre6 enc Try.prog Try.f14 Rows.spanHoldsUptoRow.domain false) (((Rows.OpenSpec.upto Rows.spanHoldsSpec).at F).post enc Try.prog Try.f14 false true false false):=by
 refine returnsInHanded_of_cond (C:=Try.checked) (s:=Rows.OpenSpec.upto Rows.spanHoldsSpec) (k:=Rows.uptoSmall) rfl own started (by kernel_rfl) Try.func14
  (OpenSpec.witness (enc:=enc) (C:=Try.checked) (s:=Rows.OpenSpec.upto Rows.spanHoldsSpec) (k:=Rows.uptoSmall) rfl false ⟨#[],#[.agg #[.int .i64 0,.slice none 0 0],.slice none 0 0,.slice none 0 0],[]⟩ 8 (by kernel_rfl) (by kernel_rfl) (by kernel_rfl)
   (x:=([.agg [.lit (.int .i64 0),.nil],.nil,.nil],[],[])) (by kernel_rfl) rfl (by kernel_rfl)) ?_
 intro W base args ds gs before hval hW _ hk _
 exact contract H enc W base args ds gs before hval hW hk

theorem proved:Rows.SpanHoldsUptoSaid:=
 OpenClaim.holds_of_cond 14 Try.f14 rfl rfl rfl rfl rfl rfl rfl ⟨rfl,rfl,rfl,rfl,rfl⟩ rfl rfl rfl rfl rfl (by kernel_rfl) Try.func14 (by kernel_rfl)
  (of_decide_eq_true (by kernel_rfl)) (by unfold Func.isWrapper;first | (rw [if_pos (by decide +kernel)];kernel_rfl) | (rw [if_neg (by decide +kernel)];exact ⟨rfl,rfl⟩))
  (fun os started H enc _ F=>lifted os started H enc F)
#print axioms proved

end Go.Proofs.Ytnbbhpihlcglgaa.spanHolds
