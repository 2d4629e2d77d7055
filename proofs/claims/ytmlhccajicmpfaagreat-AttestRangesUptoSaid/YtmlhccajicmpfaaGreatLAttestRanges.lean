/- AttestRanges: for every input of the box what stands behind each layer lies in its told range, and the problem's last variables are what comes out. Conditions: the arguments hold together at most 1048576 values (the second form, Upto). -/
import Derived.Test.YtmlhccajicmpfaaGreatSq
import Derived.Test.YtmlhccajicmpfaaGreatPartEC
import Derived.Test.YtmlhccajicmpfaaGreatPartED
import Derived.Test.YtmlhccajicmpfaaGreatPartCI
set_option maxHeartbeats 40000000
set_option maxRecDepth 100000
set_option linter.unusedSimpArgs false
namespace Go.Proofs.YtmlhccajicmpfaaGreat.attestRanges
open Go.ChangeShapes Go.WideShapes Go.ChangeAt Go.RowKit Go.Att

theorem meetQ {w0 wv:World} {B:Nat} {n:Nt NN} {p:Pr (NN × NN) NAT} {x0 x1 x2 x3 x4 x5 x6:Value} (rB:Rt wv B 7 33) (hx:Ext w0 wv) (hB:w0.heap.size≤B) (o:OnQ w0 wv (.agg #[x0,x1,x2,x3,x4,x5,x6]) n p):
  ∃ W,W=((((((wv.setCell ⟨B,0,none⟩ x0).setCell ⟨B,1,none⟩ x1).setCell ⟨B,2,none⟩ x2).setCell ⟨B,3,none⟩ x3).setCell ⟨B,4,none⟩ x4).setCell ⟨B,5,none⟩ x5).setCell ⟨B,6,none⟩ x6∧Ext w0 W∧Hid (Bx W B [x0,x1,x2,x3,x4,x5,x6])∧Hid (OnQ w0 W (.agg #[x0,x1,x2,x3,x4,x5,x6]) n p):=
 ⟨Att.putL wv B 0 [x0,x1,x2,x3,x4,x5,x6],rfl,putL_below hB _ _ hx,qH (rB.putL_at [x0,x1,x2,x3,x4,x5,x6] rfl).1,OnQ.putT o rB 0 _⟩
theorem trc_le {ls:List (Lay Rat)} {p:List Rat}:∀ {m i:Nat},i < m→(trcL ls p i).flatten.length+(vat ls p i).length≤(trcL ls p m).flatten.length
 | m+1,i,hi=>by
  rw [trcL_succ,List.flatten_append,List.length_append]
  simp only [List.flatten_cons,List.flatten_nil,List.append_nil]
  by_cases he:i=m
  ·subst he;omega
  have:=trc_le (ls:=ls) (p:=p) (m:=m) (i:=i) oM
  omega
theorem sub_self0 (p:Rat):(p - p).num.sign=0:=by rw [Rat.sub_self];rfl
theorem alike_yes {w:World} {x0 x1 x2 y0 y1 y2:Value} {p:Rat} (hp:OwnQ 156 0 w (.agg #[x0,x1,x2]) p) (hq:OwnQ 156 0 w (.agg #[y0,y1,y2]) p) (sp:Sz 10000000 p):
  Calls Tryz.prog 19 #[.agg #[x0,x1,x2],.agg #[y0,y1,y2]] w (Gives w fun v' _=>v'=.bool true):=by
 refine via fun R hR=>?_
 obtain ⟨p1,p2,p3,p4,p5,p6,p7,rfl,rfl,rfl⟩:=RdQ.op3 hp.rd
 obtain ⟨r1,r2,r3,r4,r5,r6,r7,rfl,rfl,rfl⟩:=RdQ.op3 hq.rd
 obtain ⟨w1,hw1,b1,k1,k2,-,-,-⟩:=bx2 w [.bool p1,.slice p2 p3 p4,.slice p5 p6 p7] [.bool r1,.slice r2 r3 r4,.slice r5 r6 r7] 38 38
 have HW:=qH hw1
 have HC:=qH (rcmp_any (hp.ext b1).rd (hq.ext b1).rd sp sp)
 obtain ⟨j0,j1,j2⟩:=k1.c3
 obtain ⟨i0,i1,i2⟩:=k2.c3
 clear hw1 k1 k2 hp hq sp
 rw [sub_self0] at HC
 go_enter Tryz.func19,Tryz.ntmps19
 go_upto_region 1 with (fail)
 rw [← HW.out]
 clear HW
 go_wp2_with fail
 refine HC.out.mono ?_
 rintro e w2 ⟨_,rfl,b2,rfl⟩
 go_wp2_with fail
 exact hR.out _ _ (Gives.mk (eT b1 b2) rfl)
theorem walk {w:World} {v0 v1:Value} {n0:Nt NN × Pr (NN × NN) NAT} {l1:List NN} (hv0:RdQy RdNp RdNDp RdNA w v0 n0) (hv1:RdRow 3 RdNp w v1 l1) (_:∀ p∈l1,bN p≤1048576) (_:l1.length≤1048576):
  Calls Tryz.prog 3 #[v0,v1] w (Gives w fun v' _=>v'=.bool true):=by
 refine via fun R hR=>?_
 have HV1:=qH hv1
 have HLN:Hid (∀ w',Ext w w'→Calls Tryz.prog 6 #[v0] w' (Gives w' fun v' w''=>∃ o b k,v'=.tuple #[o,.bool b]∧(b=true↔lit n0.1)∧OnQ w w'' o (netK n0.1 k) (prO n0.2)∧k≤3∧(∀ l∈n0.1.2.take k,litL l)∧(b=true→n0.1.2.take k=n0.1.2))):=fun w' xx=>light19_any xx hv0
 obtain ⟨a0,c0,a,c,a',c',x,k,rfl,-,-,-,-⟩:=hv0.op
 obtain ⟨a1,c1,rfl,-,-⟩:=hv1.shape
 obtain ⟨w1,hw1,b1,k1,-,-⟩:=bx1 w [.int .i64 n0.1.1,.slice a0 n0.1.2.length c0,.slice a n0.2.1.length c,.slice a' n0.2.2.1.length c',.int .i64 n0.2.2.2.k,.int .i64 n0.2.2.2.a,.slice x n0.2.2.2.sub.length k] 33
 have HW:=qH hw1
 have C1:=qH k1
 have R1:Hid (Rt w1 w.heap.size 7 33):=by
  show Rt _ _ _ _
  rw [hw1]
  exact Rt.new w [_,_,_,_,_,_,_] _
 have HI1:Hid (∀ w',Calls Tryz.prog 5 #[.int .i64 (-1)] w' (Gives w' fun v' w''=>OwnQ 156 0 w'' v' ((-1:Int):Rat))):=fun w'=>(rint_any (u := -1) ⟨by decide,by decide⟩).mono fun _ _ ⟨v,e,b,o⟩=>⟨v,e,b,o.mono (Nat.zero_le _)⟩
 have HI2:Hid (∀ w',Calls Tryz.prog 5 #[.int .i64 1] w' (Gives w' fun v' w''=>OwnQ 156 0 w'' v' ((1:Int):Rat))):=fun w'=>(rint_any (u:=1) ⟨by decide,by decide⟩).mono fun _ _ ⟨v,e,b,o⟩=>⟨v,e,b,o.mono (Nat.zero_le _)⟩
 clear hw1 k1 hv0 hv1
 go_enter Tryz.func3,Tryz.ntmps3
 go_upto_region 1 with (fail)
 rw [← HW.out]
 clear HW
 go_wp2_with fail
 refine (HI1.out _).mono ?_
 rintro e w2 ⟨v2,rfl,b2,o2⟩
 obtain ⟨s2,p2,q2,r2,p2',q2',r2',rfl,O2⟩:=o2.op
 clear o2
 go_wp2_with fail
 refine (HI2.out _).mono ?_
 rintro e w3 ⟨v3,rfl,b3,o3⟩
 obtain ⟨s3,p3,q3,r3,p3',q3',r3',rfl,O3⟩:=o3.op
 clear o3
 go_wp2_with fail
 refine (sphase_any (OwnD.mk6 (OwnQ.ext O2.out b3) O3.out).rd).mono ?_
 rintro e w4 ⟨_,rfl,b4,rfl⟩
 rw [phs_mid]
 go_wp2_with fail
 refine (HI2.out _).mono ?_
 rintro e w5 ⟨v5,rfl,b5,o5⟩
 obtain ⟨s5,p5,q5,r5,p5',q5',r5',rfl,O5⟩:=o5.op
 clear o5
 go_wp2_with fail
 refine (HI2.out _).mono ?_
 rintro e w6 ⟨v6,rfl,b6,o6⟩
 obtain ⟨s6,p6,q6,r6,p6',q6',r6',rfl,O6⟩:=o6.op
 clear o6
 go_wp2_with fail
 refine (sphase_any (OwnD.mk6 (OwnQ.ext O5.out b6) O6.out).rd).mono ?_
 rintro e w7 ⟨_,rfl,b7,rfl⟩
 rw [phs_one]
 obtain ⟨j0,j1,j2,j3,j4,j5,j6⟩:=(C1.out.ext (eT b2 (eT b3 (eT b4 (eT b5 (eT b6 b7)))))).c7
 go_wp2_with fail
 refine (HLN.out _ (eT b1 (eT b2 (eT b3 (eT b4 (eT b5 (eT b6 b7))))))).mono ?_
 rintro e w8 ⟨_,rfl,b8,o,b,kk,rfl,hb,ho,hk3,hkl,hkt⟩
 clear j0 j1 j2 j3 j4 j5 j6 HLN O2 O3 O5 O6
 obtain ⟨an,cn,ab,cb,aa,ca,xf,kf,rfl,HO⟩:=OnQ.op ho
 obtain ⟨_,_,_,_,_,_,_,m0,m1,m2,m3,m4,m5,m6,i0,i1,i2,i3,i4,i5,i6⟩:=(R1.out.ext (eT b2 (eT b3 (eT b4 (eT b5 (eT b6 (eT b7 b8))))))).c7
 obtain ⟨W,hW,hXW,CW,HNW⟩:=meetQ (R1.out.ext (eT b2 (eT b3 (eT b4 (eT b5 (eT b6 (eT b7 b8))))))) (eT b1 (eT b2 (eT b3 (eT b4 (eT b5 (eT b6 (eT b7 b8))))))) (Nat.le_refl _) HO.out
 have HW:=qH hW
 have HK3:=qH hk3
 have HKL:=qH hkl
 have HKT:=qH hkt
 have HB:=qH hb
 clear hW ho HO hk3 hkl hkt hb
 go_upto_region 4 with (fail)
 rw [← HW.out]
 clear HW m0 m1 m2 m3 m4 m5 m6 i0 i1 i2 i3 i4 i5 i6 R1 C1
 go_wp2_with fail
 refine (ones15_any (HV1.out.ext RdNp.ext hXW)).mono ?_
 rintro e w11 ⟨v3,rfl,b11,o3⟩
 have HL3:Hid (RdRow 3 RdNp w11 v3 (atO l1)):=RdRow.mono o3.rd fun _ _ h=>OwnN.rd h
 obtain ⟨a3,k3,rfl,-,-⟩:=HL3.out.shape
 clear o3
 have HQQ:=qH (OnQ.rd (OnQ.ext HNW.out b11) (eT hXW b11))
 obtain ⟨j0,j1,j2,j3,j4,j5,j6⟩:=(CW.out.ext b11).c7
 go_wp2_with fail
 refine (of19_any HQQ.out (netK_lit HK3.out HKL.out) (netK_nlt _ _) (prO_nlt _)).mono ?_
 rintro e w12 ⟨_,rfl,b12,hm⟩
 clear j0 j1 j2 j3 j4 j5 j6 HQQ CW HNW
 obtain ⟨q,hq⟩:∃ q,((mapNet qN (netK n0.1 kk),prQ (prO n0.2)):Nt Rat × Pr (Rat × Rat) AT)=q:=⟨_,rfl⟩
 have HBX:Hid (SzR 8 q.2.1∧q.2.1.length≤40):=by rw [← hq];exact prP_box n0.2
 have HAT:Hid ((∀ a∈q.2.2.1,Smx a.1.1 a.1.2)∧q.2.2.1.length≤210):=by rw [← hq];exact prP_ats n0.2
 have HLT:Hid (b=true→lit q.1∧∀ l∈q.1.2,SzL l):=fun h1=>by
  rw [← hq]
  dsimp only
  rw [netK_all (HKT.out h1)]
  exact ⟨netQ_lit (HB.out.1 h1),netQ_sz _⟩
 rw [hq] at hm
 clear hq HK3 HKL HKT HB
 have HM:=qH hm
 obtain ⟨e0,d0,e1,d1,e2,d2,xg,kg,rfl,hmn,hmp⟩:=hm.op2
 have HMN:=qH hmn
 have HMP:=qH hmp
 clear hm hmn hmp
 obtain ⟨m,B,A,f⟩:=q
 dsimp only at HM HMN HMP HBX HAT HLT ⊢
 obtain ⟨w13,hw13,b13,c13,-,-⟩:=bx1 w12 [.int .i64 m.1,.slice e0 m.2.length d0,.slice e1 B.length d1,.slice e2 A.length d2,.int .i64 f.k,.int .i64 f.a,.slice xg f.sub.length kg] 53
 have HW:=qH hw13
 have C13:=qH c13
 clear hw13 c13
 go_upto_region 6 with (fail)
 rw [← HW.out]
 clear HW
 go_wp2_with fail
 refine (rats16_any (HL3.out.ext RdNp.ext (eT b12 b13)) (atO_nlt l1)).mono ?_
 rintro e w14 ⟨v14,rfl,b14,o14⟩
 obtain ⟨p,hp⟩:∃ p,atP l1=p:=⟨_,rfl⟩
 have HP:Hid (RdRow 3 QnN w14 v14 p):=by rw [← hp];exact o14.rd
 have HPZ:Hid (SzV 8 p):=by rw [← hp];exact atP_sz l1
 have HPL:Hid (p.length≤40):=by rw [← hp];exact atP_len l1
 obtain ⟨ap,kp,rfl,-,-⟩:=HP.out.shape
 clear hp o14 HL3
 have X14:=qH (eT (eT hXW b11) (eT b12 (eT b13 b14)))
 generalize (atO l1).length=nao at*
 go_upto_region 7 with (fail)
 cases b with
 | false=>
  go_wp2_with fail
  exact hR.out _ _ (Gives.mk X14.out rfl)
 | true=>
  have HL:=qH (HLT.out rfl).1
  have HZL:=qH (HLT.out rfl).2
  clear HLT
  have HQ14:=qH (qyp_ext HM.out (eT b13 b14))
  obtain ⟨j0,j1,j2,j3,j4,j5,j6⟩:=(C13.out.ext b14).c7
  go_wp2_with fail
  refine (told19_any HQ14.out HL.out HZL.out HBX.out.1 HAT.out.1 ⟨by have:=HBX.out.2;dsimp only;omega,by have:=HAT.out.2;dsimp only;omega⟩).mono ?_
  rintro e w15 ⟨v15,rfl,b15,o15⟩
  clear j0 j1 j2 j3 j4 j5 j6
  go_wp2_with fail
  refine (r19check_any o15 HL.out (fun s hs=>⟨(HBX.out.1 s hs).1.fit dC,(HBX.out.1 s hs).2.fit dC⟩) ⟨by have:=HBX.out.2;show B.length≤1000;omega,by have:=HAT.out.2;show A.length≤1000;omega⟩ (fun a ha=>by have:=(HAT.out.1 a ha).1;omega)).mono ?_
  rintro e w16 ⟨_,rfl,b16,z,rfl,hz0⟩
  have X16:=qH (eT X14.out (eT b15 b16))
  by_cases hz1:z=0
  ·obtain ⟨hwd,hpr⟩:=hz0 hz1
   subst hz1
   obtain ⟨hpr,htf,hff,hsf⟩:=checks hpr
   have HWD:=qH hwd
   have HPR:=qH hpr
   have HTF:=qH htf
   have HFF:=qH hff
   have HSF:=qH hsf
   clear hwd hpr htf hff hsf hz0
   obtain ⟨j0,j1,j2,j3,j4,j5,j6⟩:=(C13.out.ext (eT b14 (eT b15 b16))).c7
   go_wp2_with fail
   refine (inside_any (RdPr.ext HMP.out snd_ext OwnAt.ext (eT b13 (eT b14 (eT b15 b16)))) (HP.out.ext OwnQ.ext (eT b15 b16)) (fun s hs=>⟨(HBX.out.1 s hs).1.le dC,(HBX.out.1 s hs).2.le dC⟩) (fun r hr=>(HPZ.out r hr).le dC) (by have:=HPL.out;omega)).mono ?_
   rintro e w17 ⟨_,rfl,b17,g,rfl,hin⟩
   clear j0 j1 j2 j3 j4 j5 j6
   have X17:=qH (eT X16.out b17)
   cases g with
   | false=>
    go_wp2_with fail
    exact hR.out _ _ (Gives.mk X17.out rfl)
   | true=>
    have HIN:Hid (InR B p):=hin rfl
    clear hin
    have HQ17:=qH (qyp_ext HM.out (eT b13 (eT b14 (eT b15 (eT b16 b17)))))
    obtain ⟨j0,j1,j2,j3,j4,j5,j6⟩:=(C13.out.ext (eT b14 (eT b15 (eT b16 b17)))).c7
    go_wp2_with fail
    refine (told19_any HQ17.out HL.out HZL.out HBX.out.1 HAT.out.1 ⟨by have:=HBX.out.2;dsimp only;omega,by have:=HAT.out.2;dsimp only;omega⟩).mono ?_
    rintro e w18 ⟨v18,rfl,b18,o18⟩
    clear j0 j1 j2 j3 j4 j5 j6
    go_wp2_with fail
    refine (r19small_any o18 HL.out (by have:=HSF.out;show szF (tldF f 20002).1≤20000;rw [HTF.out];exact this) (by have:=HAT.out.2;show A.length≤1000;omega)).mono ?_
    rintro e w19 ⟨_,rfl,b19,g,rfl,hsm⟩
    have X19:=qH (eT X17.out (eT b18 b19))
    cases g with
    | false=>
     go_wp2_with fail
     exact hR.out _ _ (Gives.mk X19.out rfl)
    | true=>
     have HSM:Hid (A.length≤10∧szF f≤60):=by
      have h:=hsm rfl
      have h2:szF (tldF f 20002).1≤60:=h.2
      rw [HTF.out] at h2
      exact ⟨h.1,h2⟩
     clear hsm X14 X16 X17 HSF HTF HQ14 HQ17
     have HRB:Hid (RdRow 6 SnD w19 (.slice e1 B.length d1) B):=by
      obtain ⟨ra,rc,ra',rc',rx,he,h1,-,-⟩:=HMP.out
      simp only [Value.agg.injEq,Array.mk.injEq,List.cons.injEq,Value.slice.injEq,and_true,true_and] at he
      obtain ⟨⟨rfl,rfl⟩,-⟩:=he
      exact h1.ext snd_ext (eT b13 (eT b14 (eT b15 (eT b16 (eT b17 (eT b18 b19))))))
     have C19:=qH (C13.out.ext (eT b14 (eT b15 (eT b16 (eT b17 (eT b18 b19))))))
     have HM19:=qH (qyp_ext HM.out (eT b13 (eT b14 (eT b15 (eT b16 (eT b17 (eT b18 b19)))))))
     have HN19:=qH (HMN.out.ext OwnQ.ext (eT b13 (eT b14 (eT b15 (eT b16 (eT b17 (eT b18 b19)))))))
     have HP19:=qH (HP.out.ext OwnQ.ext (eT b15 (eT b16 (eT b17 (eT b18 b19)))))
     clear C13 HM HMN HMP HP
     have HBM:Hid ((B.length:Int)=m.1∧(∀ s∈B,s.1≤s.2)∧B.length≤4):=by
      have h1:=HPR.out.2.2.2.2.2.2.1
      dsimp only at h1
      exact ⟨h1,HPR.out.2.2.2.2.2.2.2.1,by have h2:m.1≤4:=HL.out.1;omega⟩
     have HTE:Hid (thrE m B=0):=thr_ok HWD.out HBM.out.1 HBM.out.2.1
     have HQK:Hid (QyOk (m,B,A,f)):=⟨HL.out,HWD.out,HPR.out,fun s hs=>⟨(HBX.out.1 s hs).1.le dC,(HBX.out.1 s hs).2.le dC⟩,fun a ha=>by have:=(HAT.out.1 a ha).1;omega⟩
     go_upto_region 9 with (fail)
     go_cut [8] (fun s8 wx=>Ext w19 wx∧Hid (OwnRow 6 SnD 41 w19.heap.size wx s8 []))
     case first=>
      go_wp2_with fail
      go_meet
      exact ⟨Ext.alloc _ _,OwnRow.nilLit _ (Nat.le_refl _)⟩
     case rest=>
      obtain ⟨hX9,hO9⟩:=hcut
      obtain ⟨j0,j1,j2,j3,j4,j5,j6⟩:=(C19.out.ext hX9).c7
      go_wp2_with fail
      clear j0 j1 j2 j3 j4 j5 j6
      go_loopw [8,74] (fun o t wr=>∃ i:Nat,t=.int .i64 i∧i≤B.length∧Hid (Ext w19 wr)∧Hid (OwnRow 6 SnD 41 w19.heap.size wr o (B.take i))) (fun _ t _=>B.length - (intOf t).toNat)
      case atStart=>exact ⟨0,rfl,Nat.zero_le _,hX9,by rw [List.take_zero];exact hO9⟩
      case round=>
       clear hX9 hO9
       obtain ⟨i,rfl,hi,hX,hO⟩:=hrel
       obtain ⟨w20,hw20⟩:∃ w0:World,w0=wr:=⟨_,rfl⟩
       subst hw20
       by_cases hlt:i < B.length
       ·have hd:=dT ((i:Int) < (B.length:Int))
        have HJ1:IntKind.i64.wrap ((i:Int)+1)=((i+1:Nat):Int):=by have:=HBM.out.2.2;rw [IntKind.wrap_i64];omega
        have HI2:(0:Int)≤(i:Int)∧(i:Int) < (B.length:Int):=⟨by omega,by omega⟩
        obtain ⟨bL,oL,s,x0,k0,m0,x1,k1,m1,t,y0,q0,r0,y1,q1,r1,hae,hbo,hq0,hq1⟩:=(HRB.out.ext snd_ext hX.out).sp i hlt
        subst hae
        have HTK:Hid (B.take (i+1)=B.take i ++ [B[i]]):=(List.take_append_getElem hlt).symm
        have HTN:Hid ((B.take i).length=i∧i≤4):=⟨by rw [List.length_take];omega,by have:=HBM.out.2.2;omega⟩
        obtain ⟨u0,u1,u2,u3,u4,u5⟩:=hbo.c6
        obtain ⟨w21,hw21,b21,c21,-,-⟩:=bx1 w20 [.bool s,.slice x0 k0 m0,.slice x1 k1 m1,.bool t,.slice y0 q0 r0,.slice y1 q1 r1] 74
        have HW:=qH hw21
        have C21:=qH c21
        have HD:=qH (OwnD.ext (OwnD.mk6 hq0 hq1) b21)
        clear hw21 c21 hbo hq0 hq1
        generalize B[i]=sq at*
        go_upto_region 13 with (fail)
        rw [← HW.out]
        clear HW u0 u1 u2 u3 u4 u5
        obtain ⟨u0,u1,u2,u3,u4,u5⟩:=C21.out.c6
        go_wp2_with (refine build1W et17D rF rF (T:=SnD) snd_ext rF [.bool s,.slice x0 k0 m0,.slice x1 k1 m1,.bool t,.slice y0 q0 r0,.slice y1 q1 r1] (fill_d1 ..) rfl dC (y:=sq) HD.out ?_;intro g8 w8 x8 _ l8;refine append_rowGL et17D (kdD (e:=156) dC) rF _ _ rF w19.heap.size rF (hO.out.ext snd_ext (eT b21 x8)) rF l8.rd (by have:=HTN.out;omega) (by unfold maxLen;have:=HTN.out;omega) (Below.size (eT hX.out (eT b21 x8))) ?_;intro v9 w9 o9 b9 g9 _)
        go_roundw
        case rel=>exact ⟨i+1,by go_num,by omega,Below.trans (eT hX.out (eT b21 x8)) b9,by rw [HTK.out];exact o9⟩
        simp [intOf]<;>omega
       obtain rfl:i=B.length:=by omega
       have hd:=dF ((B.length:Int) < (B.length:Int))
       rw [List.take_length] at hO
       have HSP:=qH hO.out.rd
       obtain ⟨ao,ko,rfl,-,-⟩:=hO.out.rd.shape
       have hX20:=hX.out
       clear hO HRB
       obtain ⟨j0,j1,j2,j3,j4,j5,j6⟩:=(C19.out.ext hX20).c7
       go_wp2_with fail
       refine (through_any (HN19.out.ext OwnQ.ext hX20) HSP.out HL.out HZL.out HBX.out.1 (by have:=HBM.out.2.2;omega)).mono ?_
       rintro e w22 ⟨_,rfl,b22,oT,rfl,-,hT1⟩
       have HOT:=qH (hT1 HTE.out)
       rw [HTE.out]
       clear hT1 j0 j1 j2 j3 j4 j5 j6 HSP
       obtain ⟨aT,kT,rfl,-,-⟩:=HOT.out.rd.shape
       rw [thrL_len]
       obtain ⟨j0,j1,j2,j3,j4,j5,j6⟩:=(C19.out.ext (eT hX20 b22)).c7
       go_wp2_with fail
       refine (trace_any (HN19.out.ext OwnQ.ext (eT hX20 b22)) (HP19.out.ext OwnQ.ext (eT hX20 b22)) HL.out HZL.out HIN.out HWD.out HBM.out.1 HPZ.out).mono ?_
       rintro e w23 ⟨_,rfl,b23,oG,rfl,hG⟩
       have HOG:=qH hG
       clear hG j0 j1 j2 j3 j4 j5 j6
       obtain ⟨aG,kG,rfl,-,-⟩:=HOG.out.rd.shape
       rw [trcL_len]
       obtain ⟨j0,j1,j2,j3,j4,j5,j6⟩:=(C19.out.ext (eT hX20 (eT b22 b23))).c7
       go_wp2_with fail
       refine (extend_ok (qyp_ext HM19.out (eT hX20 (eT b22 b23))) (HP19.out.ext OwnQ.ext (eT hX20 (eT b22 b23))) HQK.out HZL.out HIN.out HBM.out.1 HPZ.out HAT.out.1 HSM.out.1 HFF.out HSM.out.2).mono ?_
       rintro e w24 ⟨_,rfl,b24,oX,bX,rfl,hXX⟩
       have HOX:=qH hXX
       clear hXX j0 j1 j2 j3 j4 j5 j6
       obtain ⟨j0,j1,j2,j3,j4,j5,j6⟩:=(C19.out.ext (eT hX20 (eT b22 (eT b23 b24)))).c7
       go_wp2_with fail
       refine (bases_ok (qyp_ext HM19.out (eT hX20 (eT b22 (eT b23 b24)))) HQK.out).mono ?_
       rintro e w25 ⟨_,rfl,b25,oB,rfl,hB⟩
       have HOB:=qH hB
       clear hB j0 j1 j2 j3 j4 j5 j6
       obtain ⟨nT,hnT⟩:∃ nT,m.2.length+1=nT:=⟨_,rfl⟩
       rw [hnT] at HOT HOG HOX HOB ⊢
       have HNT:=qH hnT
       clear hnT
       obtain ⟨aB,kB,rfl,-,-⟩:=HOB.out.rd.shape
       rw [bsL_len]
       have HLV:Hid (∀ i,i < nT→0 < (vat m.2 p i).length∧(vat m.2 p i).length≤4):=fun i hi=>by
        have hi2:i≤m.2.length:=by have:=HNT.out;omega
        have h1:=vat_len HWD.out HBM.out.1 HIN.out i hi2
        have h2:=wds_le HWD.out HL.out.1 HL.out.2.2 i hi2
        have h3:=wds_pos HWD.out i hi2
        exact ⟨by omega,by omega⟩
       have HBS:Hid (∀ i,i≤nT→(((trcL m.2 p i).flatten.length:Nat):Int)=bsN m.2 m.1 i):=fun i hi=>trc_bs HWD.out HBM.out.1 HIN.out i (by have:=HNT.out;omega)
       have HTL:Hid (∀ i,i < nT→(trcL m.2 p i).flatten.length+(vat m.2 p i).length≤(trcL m.2 p nT).flatten.length):=fun i hi=>trc_le hi
       have HN4:Hid (nT≤4∧0 < nT):=by have h1:=HNT.out;have h2:m.2.length≤3:=HL.out.2.1;exact ⟨by omega,by omega⟩
       have HFL:Hid ((trcL m.2 p nT).flatten.length≤16):=by
        have h1:=HBS.out nT (Nat.le_refl _)
        have h2:=bsN_bd HWD.out HL.out.1 HL.out.2.2 nT (by have:=HNT.out;omega)
        have h3:=HN4.out
        show _≤_
        omega
       have HF0:0 < (trcL m.2 p nT).flatten.length:=by
        have h1:=HTL.out 0 HN4.out.2
        have h2:=HLV.out 0 HN4.out.2
        omega
       obtain ⟨gX,cX,hoX⟩:=HOX.out.at0 HF0
       subst hoX
       have HRX:=qH HOX.out.rd
       have HCX:Hid ((trcL m.2 p nT).flatten.length≤cX):=by
        obtain ⟨_,_,he,hle,-⟩:=HRX.out.shape
        simp only [Value.slice.injEq] at he
        obtain ⟨-,-,rfl⟩:=he
        exact hle
       have HTA:Hid (∀ i j,i < nT→(hj:j < (vat m.2 p i).length)→(trcL m.2 p nT).flatten[(trcL m.2 p i).flatten.length+j]?=some (vat m.2 p i)[j]):=fun i j hi hj=>trc_at hi hj
       have HTD:Hid ((trcL m.2 p nT).flatten.drop (trcL m.2 p m.2.length).flatten.length=vat m.2 p m.2.length):=by rw [← HNT.out];exact trc_drop
       clear HOX HF0
       obtain ⟨FL,hFL⟩:∃ FL,(trcL m.2 p nT).flatten=FL:=⟨_,rfl⟩
       rw [hFL] at HRX HTL HFL HCX HTA HTD ⊢
       clear hFL
       obtain ⟨nX,hnX⟩:∃ nX,FL.length=nX:=⟨_,rfl⟩
       rw [hnX] at HRX HTL HFL HCX ⊢
       have HNX:=qH hnX
       clear hnX
       have hn1:((nT:Int) != (nT:Int))=false:=bne_self_eq_false _
       have hw1:IntKind.i64.wrap ((nT:Int)+1)=(nT:Int)+1:=by have:=HN4.out;rw [IntKind.wrap_i64];omega
       have hn2:((nT:Int)+1 != (nT:Int)+1)=false:=bne_self_eq_false _
       go_wp2_with fail
       clear hn1 hw1 hn2
       go_loopw [144] (fun t wr=>∃ i:Nat,t=.int .i64 i∧i≤nT∧Hid (Ext w25 wr)) (fun t _=>nT - (intOf t).toNat)
       case atStart=>exact ⟨0,rfl,Nat.zero_le _,Ext.refl _⟩
       case round=>
        obtain ⟨i,rfl,hi,hX⟩:=hrel
        obtain ⟨w26,hw26⟩:∃ w0:World,w0=wr:=⟨_,rfl⟩
        subst hw26
        have hnt:=HNT.out
        by_cases hil:i < nT
        ·have hd:=dT ((i:Int) < (nT:Int))
         have HJ1:IntKind.i64.wrap ((i:Int)+1)=((i+1:Nat):Int):=by have:=HN4.out;rw [IntKind.wrap_i64];omega
         have HI2:(0:Int)≤(i:Int)∧(i:Int) < (nT:Int):=⟨by omega,by omega⟩
         have HI3:(0:Int)≤(i:Int)∧(i:Int) < (nT:Int)+1:=⟨by omega,by omega⟩
         obtain ⟨bT,oT,p1,q1,hb1,CT,HRT1⟩:=(HOT.out.ext snr_ext (eT b23 (eT b24 (eT b25 hX.out)))).rd.rowOf i (by rw [thrL_len];omega) (thrL_at (by rw [thrL_len];omega))
         subst hb1
         obtain ⟨bG,oG,p2,q2,hbG,CG,HRG1⟩:=(HOG.out.ext qnw_ext (eT b24 (eT b25 hX.out))).rd.rowOf i (by rw [trcL_len];omega) (trcL_at (by rw [trcL_len];omega))
         subst hbG
         obtain ⟨bB,oB,hbB,e1⟩:=IntT.row (HOB.out.ext IntT.ext hX.out).rd i (by rw [bsL_len];omega)
         subst hbB
         rw [bsL_get,← HBS.out i hi] at e1
         have CB:Hid (Bo w26 bB (oB+i) [.int .i64 (((trcL m.2 p i).flatten.length:Nat):Int)]):=Bo.one e1
         have HTLi:=qH (HTL.out i hil)
         have HTAi:Hid (∀ j,(hj:j < (vat m.2 p i).length)→FL[(trcL m.2 p i).flatten.length+j]?=some (vat m.2 p i)[j]):=fun j hj=>HTA.out i j hil hj
         generalize (trcL m.2 p i).flatten.length=ni at*
         have HII:=qH (HIN.out.run (ls:=m.2) i oM)
         have HZ1:Hid (SzR 1436 (xat m.2 B i)):=(xat_sz HWD.out HBM.out.1 HL.out.1 HL.out.2.2 HZL.out HBX.out.1 i oM).le (cN_le3 (by have:=HN4.out;omega))
         have HZ2:Hid (SzV 1436 (vat m.2 p i)):=(vat_sz HWD.out HBM.out.1 HL.out.1 HL.out.2.2 HZL.out HIN.out HPZ.out i oM).le (cN_le3 (by have:=HN4.out;omega))
         have HGL:=qH (HLV.out i hil)
         clear hnt e1
         generalize xat m.2 B i=y1 at*
         generalize vat m.2 p i=g1 at*
         obtain ⟨ny,hny⟩:∃ ny,y1.length=ny:=⟨_,rfl⟩
         have HNY:Hid (ny=g1.length):=by show _=_;rw [← hny];exact HII.out.len
         rw [hny] at CT HRT1
         have HNY2:=qH hny
         clear hny
         obtain ⟨ng,hng⟩:∃ ng,g1.length=ng:=⟨_,rfl⟩
         rw [hng] at CG HRG1 HGL HNY HTLi
         have HNG2:=qH hng
         obtain rfl:=HNY.out
         clear hng HNY
         have hne:((ny:Int) != (ny:Int))=false:=bne_self_eq_false _
         have hb0:=dF ((ni:Int) < 0)
         have hb1:IntKind.i64.wrap ((nX:Int) - (ny:Int))=(nX:Int) - (ny:Int):=by have:=HFL.out;have:=HGL.out;rw [IntKind.wrap_i64];omega
         have hb2:decide ((nX:Int) - (ny:Int) < (ni:Int))=false:=decide_eq_false (by have:=HTLi.out;omega)
         have hb3:decide ((ni:Int) > (nX:Int) - (ny:Int))=false:=decide_eq_false (by have:=HTLi.out;omega)
         go_upto_region 24 with (fail)
         have b27:=drew_ext w26
         have XE:=b27
         refine wp_region_noPanic ?_
         refine wp_region_held_drew (S:=fun w'=>(w'.cell? ⟨bG,oG+i,none⟩=some (.slice p2 ny q2))∧(w'.cell? ⟨bT,oT+i,none⟩=some (.slice p1 ny q1))∧(w'.cell? ⟨bB,oB+i,none⟩=some (.int .i64 ni))) kR (⟨(CG.out.ext XE).c1,(CT.out.ext XE).c1,(CB.out.ext XE).c1⟩) (fun hHeld=>?_)
         refine tkH 0 hHeld ?_
         simp only [jP,jJ]
         refine tkH 1 hHeld ?_
         simp only [jP,jJ]
         refine tkH 2 hHeld ?_
         simp only [jP,jJ]
         refine tkH 3 hHeld ?_
         simp only [jP,jJ]
         refine tkH 4 hHeld ?_
         simp only [jP,jJ]
         refine tkH 5 hHeld ?_
         simp only [jP,jJ]
         refine tkH 6 hHeld ?_
         simp only [jP,jJ]
         refine tkH 7 hHeld ?_
         simp only [jP,jJ]
         refine tkH 8 hHeld ?_
         simp only [jP,jJ]
         refine tkH 9 hHeld ?_
         simp only [jP,jJ]
         refine tkH 10 hHeld ?_
         simp only [jP,jJ]
         refine tkH 11 hHeld ?_
         simp only [jP,jJ]
         refine tkH 12 hHeld ?_
         simp only [jP,jJ]
         refine tkH 13 hHeld ?_
         simp only [jP,jJ]
         refine tkH 14 hHeld ?_
         simp only [jP,jJ]
         refine tkH 15 hHeld ?_
         simp only [jP,jJ]
         refine tkH 16 hHeld ?_
         simp only [jP,jJ]
         refine tkH 17 hHeld ?_
         simp only [jP,jJ]
         refine tkH 18 hHeld ?_
         simp only [jP,jJ]
         refine tkH 19 hHeld ?_
         simp only [jP,jJ]
         refine tkH 20 hHeld ?_
         simp only [jP,jJ]
         refine tkH 21 hHeld ?_
         simp only [jP,jJ]
         refine tkH 22 hHeld ?_
         simp only [jP,jJ]
         refine tkH 23 hHeld ?_
         simp only [jP,jJ]
         refine tkH 24 hHeld ?_
         simp only [jP,jJ]
         refine tkH 25 hHeld ?_
         simp only [jP,jJ]
         refine tkH 26 hHeld ?_
         simp only [jP,jJ]
         refine tkH 27 hHeld ?_
         simp only [jP,jJ]
         refine tkH 28 hHeld ?_
         simp only [jP,jJ]
         refine tkH 29 hHeld ?_
         simp only [jP,jJ]
         refine tkH 30 hHeld ?_
         simp only [jP,jJ]
         refine tkH 31 hHeld ?_
         simp only [jP,jJ]
         refine tkH 32 hHeld ?_
         simp only [jP,jJ]
         refine dnH kR ?_
         go_upto_region 26 with (fail)
         have CG1:=qH (CG.out.ext XE)
         have c1:=CG1.out.c1
         go_wp2_with fail
         clear c1 hne hb0 hb1 hb2 hb3
         go_loopw [185] (fun t wr=>∃ j:Nat,t=.int .i64 j∧j≤ny∧Hid (Ext w26 wr)) (fun t _=>ny - (intOf t).toNat)
         case atStart=>exact ⟨0,rfl,Nat.zero_le _,XE⟩
         case round=>
          clear XE CG1
          obtain ⟨j,rfl,hj,hX28⟩:=hrel
          obtain ⟨w28,hw28⟩:∃ w0:World,w0=wr:=⟨_,rfl⟩
          subst hw28
          have hgl:=HGL.out
          by_cases hjl:j < ny
          ·have hd1:=dT ((j:Int) < (ny:Int))
           have HK1:IntKind.i64.wrap ((j:Int)+1)=((j+1:Nat):Int):=by rw [IntKind.wrap_i64];omega
           have HK2:(0:Int)≤(j:Int)∧(j:Int) < (ny:Int):=⟨by omega,by omega⟩
           have h1:j < y1.length:=by have:=HNY2.out;omega
           have h2:j < g1.length:=by have:=HNG2.out;omega
           have h3:ni+j < FL.length:=by have:=HNX.out;have:=HTLi.out;omega
           have h4:FL[ni+j]=g1[j]:=by
            obtain ⟨_,h⟩:=List.getElem?_eq_some_iff.1 (HTAi.out j h2)
            exact h
           obtain ⟨bZ,oZ,csZ,hze,hzl,hZT,hzc⟩:=(HRX.out.ext OwnQ.ext (eT b25 (eT hX.out hX28.out))).at dC (ni+j) h3
           simp only [Option.some.injEq,Addr.mk.injEq,and_true] at hze
           obtain ⟨rfl,rfl⟩:=hze
           rw [h4] at hZT
           obtain ⟨z1,z2,z3,z4,z5,z6,z7,hez,HZE⟩:=OwnQ.op hZT
           have hcz:csZ=[.bool z1,.slice z2 z3 z4,.slice z5 z6 z7]:=by simpa using hez
           subst hcz
           have CZ0:Hid (Bo w28 gX (0+(ni+j)*3) [.bool z1,.slice z2 z3 z4,.slice z5 z6 z7]):=Bo.of hzc
           obtain ⟨bQ,oQ,csQ,hqe,hql,hQT,hqc⟩:=(HRG1.rd.ext OwnQ.ext hX28.out).at dC j h2
           subst hqe
           obtain ⟨d1,d2,d3,d4,d5,d6,d7,heq,HQE⟩:=OwnQ.op hQT
           have hcq:csQ=[.bool d1,.slice d2 d3 d4,.slice d5 d6 d7]:=by simpa using heq
           subst hcq
           have CQ:Hid (Bo w28 bQ (oQ+j*3) [.bool d1,.slice d2 d3 d4,.slice d5 d6 d7]):=Bo.of hqc
           obtain ⟨bY,oY,csY,hye,hyl,hYT,hyc⟩:=(HRT1.rd.ext OwnD.ext hX28.out).at dC j h1
           subst hye
           obtain ⟨y0,y2,y3,y4,y5,y6,rfl,hq1,hq2⟩:=cells_DO hYT
           have CY0:Hid (Bo w28 bY (oY+j*6) [y0,y2,y3,y4,y5,y6]):=Bo.of hyc
           have HD:=qH (OwnD.mk6 hq1 hq2)
           have hin:=HII.out.at j h1 h2
           have hz1:=HZ1.out _ (List.getElem_mem h1)
           have hz2:=HZ2.out _ (List.getElem_mem h2)
           obtain ⟨w29,hw29,b29,c29,-,-⟩:=bx1 w28 [.bool d1,.slice d2 d3 d4,.slice d5 d6 d7] 38
           have HW:=qH hw29
           have CN:=qH c29
           have HHA:Hid (∀ w',Ext w29 w'→Calls Tryz.prog 18 #[.agg #[y0,y2,y3,y4,y5,y6],.agg #[.bool d1,.slice d2 d3 d4,.slice d5 d6 d7]] w' (Gives w' fun v' _=>v'=.bool true)):=fun w' y=>by
            have h:=shas_any (RdD.ext HD.out.rd (eT b29 y)) (RdQ.ext HQE.out.rd (eT b29 y)) (hz1.1.le dC) (hz1.2.le dC) (hz2.le dC)
            rw [decide_eq_true (sign_le.2 hin.1),decide_eq_true (sign_le.2 hin.2)] at h
            exact h
           have HAL:Hid (∀ w',Ext w29 w'→Calls Tryz.prog 19 #[.agg #[.bool z1,.slice z2 z3 z4,.slice z5 z6 z7],.agg #[.bool d1,.slice d2 d3 d4,.slice d5 d6 d7]] w' (Gives w' fun v' _=>v'=.bool true)):=fun w' y=>
            alike_yes (HZE.out.ext (eT b29 y)) (HQE.out.ext (eT b29 y)) (hz2.le dC)
           have HWR:IntKind.i64.wrap ((ni:Int)+(j:Int))=((ni+j:Nat):Int):=by have:=HFL.out;have:=HNX.out;rw [IntKind.wrap_i64];omega
           have HK3:(0:Int)≤((ni+j:Nat):Int)∧((ni+j:Nat):Int) < (nX:Int):=⟨by omega,by have:=HNX.out;omega⟩
           have CT2:=qH (CT.out.ext (eT hX28.out b29))
           have CB2:=qH (CB.out.ext (eT hX28.out b29))
           have CZ:Hid (Bo w29 gX ((ni+j)*3) [.bool z1,.slice z2 z3 z4,.slice z5 z6 z7]):=by have h:=CZ0.out.ext b29;rw [Nat.zero_add] at h;exact h
           have CY:=qH (CY0.out.ext b29)
           have X29:=qH (eT hX28.out b29)
           obtain ⟨u0,u1,u2⟩:=CQ.out.c3
           clear hw29 c29 hzl hZT hzc hez hql hQT hqc heq hyl hYT hyc hq1 hq2 hin hz1 hz2 h4 CZ0 CY0 CQ
           obtain ⟨KK,hKK⟩:∃ K,ni+j=K:=⟨_,rfl⟩
           rw [hKK] at CZ HWR HK3 h3
           clear hKK HZE HQE HD
           clear h1 h2 h3
           go_upto_region 29 with (fail)
           rw [← HW.out]
           clear HW u0 u1 u2
           have b30:=drew_ext w29
           have XE:=b30
           refine wp_region_noPanic ?_
           refine wp_region_held_drew (S:=fun w'=>(w'.cell? ⟨bT,oT+i,none⟩=some (.slice (some ⟨bY,oY,none⟩) ny q1))∧(w'.cell? ⟨bY,oY+j*6,none⟩=some (y0)∧w'.cell? ⟨bY,oY+j*6+1,none⟩=some (y2)∧w'.cell? ⟨bY,oY+j*6+2,none⟩=some (y3)∧w'.cell? ⟨bY,oY+j*6+3,none⟩=some (y4)∧w'.cell? ⟨bY,oY+j*6+4,none⟩=some (y5)∧w'.cell? ⟨bY,oY+j*6+5,none⟩=some (y6))∧(w'.cell? ⟨w28.heap.size,0,none⟩=some (.bool d1)∧w'.cell? ⟨w28.heap.size,1,none⟩=some (.slice d2 d3 d4)∧w'.cell? ⟨w28.heap.size,2,none⟩=some (.slice d5 d6 d7))∧(w'.cell? ⟨bB,oB+i,none⟩=some (.int .i64 ni))∧(w'.cell? ⟨gX,KK*3,none⟩=some (.bool z1)∧w'.cell? ⟨gX,KK*3+1,none⟩=some (.slice z2 z3 z4)∧w'.cell? ⟨gX,KK*3+2,none⟩=some (.slice z5 z6 z7))) kR (⟨(CT2.out.ext XE).c1,(CY.out.ext XE).c6,(CN.out.ext XE).c3,(CB2.out.ext XE).c1,(CZ.out.ext XE).c3⟩) (fun hHeld=>?_)
           refine tkH 0 hHeld ?_
           simp only [jP,jJ]
           refine tkH 1 hHeld ?_
           simp only [jP,jJ]
           refine tkH 2 hHeld ?_
           simp only [jP,jJ]
           refine tkH 3 hHeld ?_
           simp only [jP,jJ]
           refine tkH 4 hHeld ?_
           simp only [jP,jJ]
           refine tkH 5 hHeld ?_
           simp only [jP,jJ]
           refine tkH 6 hHeld ?_
           simp only [jP,jJ]
           refine tkH 7 hHeld ?_
           simp only [jP,jJ]
           refine rdH 8 kR rfl (fun K hK=>?_)
           go_simp
           go_at_call 18;refine (HHA.out _ XE).mono ?_;rintro e w31 ⟨_,rfl,b31,rfl⟩;(first | have XE:=eT XE b31 | have XE:=eT (eT XE (Ext.alloc _ _)) b31)
           go_wp2_with fail
           refine hK.out _ _ (⟨(CT2.out.ext XE).c1,(CY.out.ext XE).c6,(CN.out.ext XE).c3,(CB2.out.ext XE).c1,(CZ.out.ext XE).c3⟩) (fun hHeld=>?_)
           clear hK K
           try simp only [jP,jJ]
           refine tkH 9 hHeld ?_
           simp only [jP,jJ]
           refine tkH 10 hHeld ?_
           simp only [jP,jJ]
           refine tkH 11 hHeld ?_
           simp only [jP,jJ]
           refine tkH 12 hHeld ?_
           simp only [jP,jJ]
           refine tkH 13 hHeld ?_
           simp only [jP,jJ]
           refine tkH 14 hHeld ?_
           simp only [jP,jJ]
           refine tkH 15 hHeld ?_
           simp only [jP,jJ]
           refine tkH 16 hHeld ?_
           simp only [jP,jJ]
           refine tkH 17 hHeld ?_
           simp only [jP,jJ]
           refine tkH 18 hHeld ?_
           simp only [jP,jJ]
           refine tkH 19 hHeld ?_
           simp only [jP,jJ]
           refine tkH 20 hHeld ?_
           simp only [jP,jJ]
           refine rdH 21 kR rfl (fun K hK=>?_)
           go_simp
           go_at_call 19;refine (HAL.out _ XE).mono ?_;rintro e w32 ⟨_,rfl,b32,rfl⟩;(first | have XE:=eT XE b32 | have XE:=eT (eT XE (Ext.alloc _ _)) b32)
           go_wp2_with fail
           refine hK.out _ _ (⟨(CT2.out.ext XE).c1,(CY.out.ext XE).c6,(CN.out.ext XE).c3,(CB2.out.ext XE).c1,(CZ.out.ext XE).c3⟩) (fun hHeld=>?_)
           clear hK K
           try simp only [jP,jJ]
           refine tkH 22 hHeld ?_
           simp only [jP,jJ]
           refine tkH 23 hHeld ?_
           simp only [jP,jJ]
           refine dnH kR ?_
           go_wp2_with fail
           go_roundw
           case rel=>exact ⟨j+1,by go_num,by omega,eT X29.out XE⟩
           simp [intOf]<;>omega
          obtain rfl:j=ny:=by omega
          have hd1:=dF ((j:Int) < (j:Int))
          go_wp2_with fail
          go_roundw
          case rel=>exact ⟨i+1,by go_num,by omega,eT hX.out hX28.out⟩
          simp [intOf]<;>omega
        obtain rfl:i=nT:=by omega
        have hd:=dF ((i:Int) < (i:Int))
        have hXE:=eT hX20 (eT b22 (eT b23 (eT b24 (eT b25 hX.out))))
        have hml:m.2.length < i:=by omega
        have HTLi:=qH (HTL.out m.2.length hml)
        have HLVi:=qH (HLV.out m.2.length hml)
        have HZ2:Hid (SzV 1436 (vat m.2 p m.2.length)):=(vat_sz HWD.out HBM.out.1 HL.out.1 HL.out.2.2 HZL.out HIN.out HPZ.out m.2.length (Nat.le_refl _)).le (cN_le3 (by have:=HN4.out;omega))
        have HNU:=qH (neval_any (HN19.out.ext OwnQ.ext hXE) (HP19.out.ext OwnQ.ext hXE) HL.out HZL.out HIN.out HWD.out HBM.out.1 HPZ.out)
        have hHN:(trcL m.2 p m.2.length).flatten.length+(vat m.2 p m.2.length).length=nX:=by
         have h1:=congrArg List.length HTD.out
         rw [List.length_drop,HNX.out] at h1
         have h2:=HTLi.out
         omega
        have HHN:=qH hHN
        clear hHN
        generalize (trcL m.2 p m.2.length).flatten.length=nb at*
        obtain ⟨j0,j1,j2,j3,j4,j5,j6⟩:=(C19.out.ext hXE).c7
        go_wp2_with fail
        refine HNU.out.mono ?_
        rintro e w27 ⟨_,rfl,b27,oY,rfl,hY⟩
        have HOY:=qH hY
        clear j0 j1 j2 j3 j4 j5 j6 hY HNU
        obtain ⟨aY,kY,rfl,-,-⟩:=HOY.out.shape
        have HDR:Hid (RdRow 3 QnN w27 (.slice (if cX=nb then some ⟨gX,0,none⟩ else some ⟨gX,nb*3,none⟩) (nX - nb) (cX - nb)) (vat m.2 p m.2.length)):=by
         have h:=((HRX.out.ext OwnQ.ext (eT b25 (eT hX.out b27))).fromN (m:=nb) (by have:=HHN.out;omega))
         rw [HTD.out] at h
         exact h
        generalize vat m.2 p m.2.length=yl at*
        have HYL:Hid (yl.length≤4∧0 < yl.length):=⟨HLVi.out.2,HLVi.out.1⟩
        have hne:¬ cX=nb:=by have:=HCX.out;have:=HHN.out;have:=HYL.out;omega
        rw [if_neg hne] at HDR
        have hle:yl.length≤nX:=by have:=HHN.out;omega
        have HWS:IntKind.i64.wrap ((nX:Int) - (yl.length:Int))=(nb:Int):=by have:=HFL.out;have:=HHN.out;rw [IntKind.wrap_i64];omega
        have hk0:nb≤nX:=by have:=HHN.out;omega
        have hkv:nb≤cX:=by have:=HCX.out;omega
        have hk1:(0:Int)≤(nb:Int)∧(nb:Int)≤(nX:Int):=⟨by omega,by omega⟩
        have HNM:Hid (∀ w',Ext w27 w'→Calls Tryz.prog 22 #[.slice (some ⟨gX,nb*3,none⟩) (nX - nb) (cX - nb)] w' (Gives w' fun v' w'=>RdRow 3 (OwnPp 4) w' v' yl)):=fun w' xx=>(nums_any (RdRow.mono (HDR.out.ext OwnQ.ext xx) fun _ _ h=>OwnQ.rd h) (fun r hr=>(HZ2.out r hr).le dC) (by have:=HYL.out;omega)).mono fun _ _ ⟨v,e,b,o⟩=>⟨v,e,b,o.rd⟩
        have HNM2:Hid (∀ w',Ext w27 w'→Calls Tryz.prog 22 #[.slice aY yl.length kY] w' (Gives w' fun v' w'=>RdRow 3 (OwnPp 4) w' v' yl)):=fun w' xx=>(nums_any (RdRow.mono (HOY.out.ext OwnQ.ext xx) fun _ _ h=>OwnQ.rd h) (fun r hr=>(HZ2.out r hr).le dC) (by have:=HYL.out;omega)).mono fun _ _ ⟨v,e,b,o⟩=>⟨v,e,b,o.rd⟩
        go_wp2_with fail
        refine (HNM.out _ (Ext.refl _)).mono ?_
        rintro e w28 ⟨v28,rfl,b28,o28⟩
        go_wp2_with fail
        refine (HNM2.out _ b28).mono ?_
        rintro e w29 ⟨v29,rfl,b29,o29⟩
        have hO28:=o28
        go_wp2_with fail
        refine (r15rats_yes (hO28.ext OwnP.ext b29) o29 (fun r hr=>(HZ2.out r hr).fit dC) (by have:=HYL.out;omega)).mono ?_
        rintro e w30 ⟨_,rfl,b30,rfl⟩
        go_wp2_with fail
        exact hR.out _ _ (Gives.mk (eT X19.out (eT hXE (eT b27 (eT b28 (eT b29 b30))))) rfl)
  have hz2:(z != 0)=true:=by simp [hz1]
  go_wp2_with fail
  exact hR.out _ _ (Gives.mk X16.out rfl)
theorem own:ownKnob Tryz.prog.godebug=none:=by kernel_rfl
theorem laidOut:laidOutB Tryz.prog=true:=by kernel_rfl

theorem contract (H:Type) (enc:TypeId × Value→H) (W:World) (base:Nat) (args:Array Value) (ds gs:List (DataW H)) (before:List MemPlace)
  (hval:∀ (j:Nat) t v,Tryz.f3.params[j]?=some t→args[j]?=some v→Value.okWide Tryz.prog W .any base t v)
  (hW:DataW.Whole enc Tryz.prog Tryz.f3.params.toList Rows.attestRangesSpec.vars false W args.toList ds gs before) (hk:Rows.uptoSmall H (ds ++ gs)=true):
  Calls Tryz.prog 3 args W fun e W'=>∃ v,e=.returned v∧Rows.attestRangesSpec.post enc Tryz.prog Tryz.f3 false true false false W args v W':=by
 have hW':=hW
 obtain ⟨p,q,hA0,hV,rfl,hfz,hnd⟩:=hW
 have hA:DataW.TrodAll enc Tryz.prog W 0 (fun _=>true) true Tryz.f3.params.toList args.toList ds p:=hA0
 rw [Tryz.params3] at hA hval
 obtain ⟨v0,vs0,d0,ds0,p0,q0,hargs,rfl,rfl,h0,r0⟩:=trodAll_cons hA
 obtain ⟨v1,vs1,d1,ds1,p1,q1,rfl,rfl,rfl,h1,r1⟩:=trodAll_cons r0
 obtain ⟨rfl,rfl,rfl⟩:=trodAll_nil r1
 obtain rfl:args=#[v0,v1]:=by cases args;simp_all
 obtain ⟨rfl,rfl⟩:=trodVars_none hV
 have hb:=bulk_small hk
 simp only [List.append_nil,bulk_cons,bulk_nil] at hb
 have k0:=h0
 have lt0:∀ x∈p0,x.block < W.heap.size:=by obtain ⟨m,hm⟩:=k0;exact DataW.trod_lt m _ _ _ hm
 obtain ⟨n0,rd0⟩:=open_Q (hval 0 33 v0 rfl rfl) h0
 have k1:=h1
 have lt1:∀ x∈p1,x.block < W.heap.size:=by obtain ⟨m,hm⟩:=k1;exact DataW.trod_lt m _ _ _ hm
 obtain ⟨l1,rd1,bd1,len1⟩:=open_rowN Tryz.underlying34 (hval 1 34 v1 rfl rfl) h1
 clear hA0
 refine (walk rd0 rd1 (fun p hp=>by have:=bd1 p hp;omega) oM).mono fun e W' ⟨v,he,bel,hv⟩=>?_
 subst he hv
 exact ⟨_,rfl,_,_,_,[],_,[],hW',trodAll_mk1 (shut_bool Tryz.underlying4 _),(trodAll_cons_mk (Below.trod laidOut kR (of_decide_eq_true kR) k0 bel lt0) (trodAll_cons_mk (Below.trod laidOut kR (of_decide_eq_true kR) k1 bel lt1) trodAll_mk0)),rfl,bel.frame _,fun h=>by cases h⟩

theorem lifted (os:Os) (started:os.Started) (H:Type) (enc:TypeId × Value→H) (F:Stop.Interp):
  ReturnsInHanded {} Tryz.checked os 3 .any ((Rows.OpenSpec.upto Rows.attestRangesSpec).pre6 enc Tryz.prog Tryz.f3 Rows.attestRangesUptoRow.domain false) (((Rows.OpenSpec.upto Rows.attestRangesSpec).at F).post enc Tryz.prog Tryz.f3 false true false false):=by
 refine returnsInHanded_of_cond (C:=Tryz.checked) (s:=Rows.OpenSpec.upto Rows.attestRangesSpec) (k:=Rows.uptoSmall) rfl own started kR Tryz.func3
  (OpenSpec.witness (enc:=enc) (C:=Tryz.checked) (s:=Rows.OpenSpec.upto Rows.attestRangesSpec) (k:=Rows.uptoSmall) rfl false ⟨#[],#[.agg #[.int .i64 0,.slice none 0 0,.slice none 0 0,.slice none 0 0,.int .i64 0,.int .i64 0,.slice none 0 0],.slice none 0 0],[]⟩ 8 kR kR kR
   (x:=([.agg [.agg [.lit (.int .i64 0),.nil],.agg [.nil,.nil,.agg [.lit (.int .i64 0),.lit (.int .i64 0),.nil]]],.nil],[],[])) kR rfl kR) ?_
 intro W base args ds gs before hval hW _ hk _
 exact contract H enc W base args ds gs before hval hW hk

theorem proved:Rows.AttestRangesUptoSaid:=
 OpenClaim.holds_of_cond 3 Tryz.f3 rfl rfl rfl rfl rfl rfl rfl ⟨rfl,rfl,rfl,rfl,rfl⟩ rfl rfl rfl rfl rfl kR Tryz.func3 kR
  (of_decide_eq_true kR) (by unfold Func.isWrapper;first | (rw [if_pos (by decide +kernel)];kernel_rfl) | (rw [if_neg (by decide +kernel)];exact ⟨rfl,rfl⟩))
  (fun os started H enc _ F=>lifted os started H enc F)
#print axioms proved

end Go.Proofs.YtmlhccajicmpfaaGreat.attestRanges
