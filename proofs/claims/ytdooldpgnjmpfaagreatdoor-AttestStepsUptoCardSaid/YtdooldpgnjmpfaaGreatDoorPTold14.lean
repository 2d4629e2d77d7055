/- attestlaw14.Told: the document's problem -/
import Derived.Test.YtdooldpgnjmpfaaGreatDoorSq
import Derived.Test.YtdooldpgnjmpfaaGreatDoorPTidy
import Derived.Test.YtdooldpgnjmpfaaGreatDoorPartDH
import Derived.Test.YtdooldpgnjmpfaaGreatDoorPartCC
namespace Go.Proofs.YtdooldpgnjmpfaaGreatDoor
open Go.RowKit Go.Att

def LsB (L:List AT) (w:World) (v:Value):Prop:=OwnRow 5 OwnB9 112 0 w v L
theorem LsB.ext {L:List AT} {w w':World} {v:Value} (h:LsB L w v) (x:Ext w w'):LsB L w' v:=OwnRow.ext h OwnBt.ext x
theorem LsB.op {L:List AT} {w:World} {v:Value} (h:LsB L w v):∃ a k,v=.slice a L.length k∧LsB L w (.slice a L.length k):=by
 obtain ⟨a,c,rfl,-,-⟩:=(OwnRow.rd h).shape
 exact ⟨a,c,rfl,h⟩
def LvP (R B:Int) (L:List AT) (w:World) (v:Value):Prop:=∃ a k,v=.agg #[.int .i64 R,.int .i64 B,.slice a L.length k,.slice none 0 0]∧LsB L w (.slice a L.length k)
theorem LvP.ext {R B:Int} {L:List AT} {w w':World} {v:Value} (h:LvP R B L w v) (x:Ext w w'):LvP R B L w' v:=by
 obtain ⟨a,k,rfl,h⟩:=h
 exact ⟨a,k,rfl,h.ext x⟩
theorem OwnBt.putT {e t t':TypeId} {c m:Nat} {w:World} {v:Value} {p:AT} (h:OwnBt e t w v p) (hc:Rt w c m t') (h1:t≠t') (h2:e≠t') (i:Nat) (cs:List Value):OwnBt e t (Att.putL w c i cs) v p:=by
 obtain ⟨s,x,y,z,rfl,o⟩:=h
 exact ⟨s,x,y,z,rfl,o.putT hc h1 h2 i cs⟩
theorem meetP {w0 wv:World} {B:Nat} {L:List AT} (rB:Rt wv B 4 50) (hx:Ext w0 wv) (hB:w0.heap.size≤B) {x0 x1 y x3:Value} (o:LsB L wv y):
  ∃ W,W=(((wv.setCell ⟨B,0,none⟩ x0).setCell ⟨B,1,none⟩ x1).setCell ⟨B,2,none⟩ y).setCell ⟨B,3,none⟩ x3∧Ext w0 W∧Hid (Bx W B [x0,x1,y,x3])∧Hid (Rt W B 4 50)∧Hid (LsB L W y):=
 ⟨Att.putL wv B 0 [x0,x1,y,x3],rfl,putL_below hB _ _ hx,Lib.hid (rB.putL_at [x0,x1,y,x3] rfl).1,Lib.hid (rB.putL_at [x0,x1,y,x3] rfl).2,Lib.hid (OwnRow.putT o rB (by decide) 0 _ fun _ _ h=>OwnBt.putT h rB (by decide) (by decide) 0 _)⟩
set_option maxRecDepth 100000 in
set_option maxHeartbeats 40000000 in
set_option linter.unusedSimpArgs false in
theorem told14_any {w:World} {v:Value} {p:Pq AT} (hp:RdPq OwnA (RowT 1 IntT) w v p) (hsm:∀ a∈p.2.1,Sm3 a) (hna:p.2.1.length≤1000) (hnc:p.2.2.length≤60) (hcl:∀ c∈p.2.2,c.length≤70):
  Calls Tryz.prog 12 #[v] w (Gives w fun v' w'=>RdPq OwnB9 (RowT 1 IntT) w' v' p):=by
 refine via fun R hR=>?_
 obtain ⟨aa,ca,aq,cq,rfl,hAT,hCL⟩:=hp
 obtain ⟨⟨pR,pB⟩,L,cls⟩:=p
 dsimp only at*
 have HCL:=Lib.hid hCL
 have HCC:=Lib.hid hcl
 have HLS:Hid (∀ w',Ext w w'→Calls Tryz.prog 27 #[.slice aa L.length ca] w' (Gives w' fun v' w'=>LsB L w' v')):=fun w' x=>(list9_z (hAT.ext OwnAt.ext x) hsm hna).mono fun _ _ ⟨v,e,b,o⟩=>⟨v,e,b,OwnRow.mono o (Nat.zero_le _)⟩
 clear hAT hCL hsm hcl hna
 obtain ⟨nc,hncl⟩:∃ n,cls.length=n:=⟨_,rfl⟩
 have HNC:=Lib.hid hncl
 rw [hncl] at HCL hnc ⊢
 clear hncl
 obtain ⟨w1,hw1,b1,c1,c2,-,-,hs1⟩:=bx2 w [.int .i64 pR,.int .i64 pB,.slice aa L.length ca,.slice aq nc cq] [.int .i64 0,.int .i64 0,.slice none 0 0,.slice none 0 0] 34 50
 have HW:=Lib.hid hw1
 have C1:=Lib.hid c1
 have B1:=Lib.hid b1
 have R2:Hid (Rt w1 (w.heap.size+1) 4 50):=by
  show Rt _ _ _ _
  rw [hw1]
  have:=Rt.new (w.alloc (.cells #[.int .i64 pR,.int .i64 pB,.slice aa L.length ca,.slice aq nc cq] 34)) [.int .i64 0,.int .i64 0,.slice none 0 0,.slice none 0 0] 50
  simpa using this
 clear hw1 c1 c2 b1 hs1
 go_enter Tryz.func12,Tryz.ntmps12
 go_upto_region 1 with (fail)
 rw [← HW.out]
 clear HW
 have SZ1:=Lib.hid C1.out.lt
 go_cut [3] (fun s3 wx=>∃ (X:Nat) (aL:Option Addr) (kL:Nat),s3=.pointer (some ⟨X,0,none⟩)∧w1.heap.size≤X∧Ext w1 wx∧Hid (Bx wx X [.int .i64 pR,.int .i64 pB,.slice aL L.length kL,.slice none 0 0])∧Hid (Rt wx X 4 50)∧Hid (LsB L wx (.slice aL L.length kL)))
 case first=>
  as_aux_lemma=>
   refine wp_region_noPanic ?_
   refine wp_region_held_drew (S:=fun w'=>w'.cell? ⟨w.heap.size,0,none⟩=some (.int .i64 pR)∧w'.cell? ⟨w.heap.size,1,none⟩=some (.int .i64 pB)∧w'.cell? ⟨w.heap.size,2,none⟩=some (.slice aa L.length ca)∧w'.cell? ⟨w.heap.size,3,none⟩=some (.slice aq nc cq)) (by kernel_rfl) ((C1.out.ext (drew_ext w1)).c4) (fun hHeld=>?_)
   refine tkH 0 hHeld ?_
   simp only [jP,jA,jB,jC,jD,jE,jF]
   refine tkH 2 hHeld ?_
   simp only [jP,jA,jB,jC,jD,jE,jF]
   refine tkH 4 hHeld ?_
   simp only [jP,jA,jB,jC,jD,jE,jF]
   refine tkH 1 hHeld ?_
   simp only [jP,jA,jB,jC,jD,jE,jF]
   refine tkH 3 hHeld ?_
   simp only [jP,jA,jB,jC,jD,jE,jF]
   refine tkH 5 hHeld ?_
   simp only [jP,jA,jB,jC,jD,jE,jF]
   refine anyH_cap fun O Q9 AA hO hQ hA=>?_
   obtain ⟨SS,hSS⟩:∃ SS:World→Prop,Hid (SS=fun w'=>w'.cell? ⟨w.heap.size,0,none⟩=some (.int .i64 pR)∧w'.cell? ⟨w.heap.size,1,none⟩=some (.int .i64 pB)∧w'.cell? ⟨w.heap.size,2,none⟩=some (.slice aa L.length ca)∧w'.cell? ⟨w.heap.size,3,none⟩=some (.slice aq nc cq)):=⟨_,rfl⟩
   have KP:Hid (∀ wv,Ext w1 wv→SS wv):=fun wv XE=>by rw [hSS.out];exact (C1.out.ext XE).c4
   have L2_8:∀ (wv:World) (v6 v7:Value) (B8:Nat),Hid (Ext w1 wv)→Hid (LsB L wv v6)→Hid (LvP pR pB L wv v7)→Hid (Rt wv B8 4 50)→Hid (w1.heap.size≤B8)→wpAnyH Tryz.prog .any O Q9 SS 1 #[true,true,true,true,true,true,true,true,true,false] (((AA.put (some 12) v6).put (some 13) v7).put (some 3) (.pointer (some ⟨B8,0,none⟩))) wv:=by
    intro wv v6 v7 B8 hX p6 p7 r8 s8
    have hO1:=hO.out
    have hQ1:=hQ.out
    have hA1:=hA.out
    subst hO1
    subst hQ1
    subst hA1
    have XE:=hX.out
    have hHeld:=KP.out _ XE
    have hS1:=hSS.out
    subst hS1
    try simp only [jP,jA,jB,jC,jD,jE,jF]
    have k0_8:w.heap.size≠B8:=by have h1:=s8.out;have hz0:=SZ1.out;omega
    obtain ⟨a9,k9,rfl,OO⟩:=p7.out
    obtain ⟨_,_,_,_,i8_0,i8_1,i8_2,i8_3,f8_0,f8_1,f8_2,f8_3⟩:=r8.out.c4
    refine rdH 9 (by kernel_rfl) rfl (fun K hK=>?_)
    go_simp
    refine hK.out _ _ ((((((C1.out.ext XE).set1 k0_8 _ _).set1 k0_8 _ _).set1 k0_8 _ _).set1 k0_8 _ _).c4) (fun hHeld=>?_)
    clear hK K
    try simp only [jP,jA,jB,jC,jD,jE,jF]
    refine wpAnyH_done (by kernel_rfl) ?_ _
    refine NoPanic.normal ?_
    go_wp2_with fail
    go_meet
    obtain ⟨W,hW,hM1,hM2,hM3,hM4⟩:=meetP r8.out hX.out s8.out OO
    rw [← hW]
    exact ⟨B8,_,_,rfl,s8.out,hM1,hM2,hM3,hM4⟩
   have L1_8:∀ (wv:World) (v6:Value) (B8:Nat),Hid (Ext w1 wv)→Hid (LsB L wv v6)→Hid (Rt wv B8 4 50)→Hid (w1.heap.size≤B8)→wpAnyH Tryz.prog .any O Q9 SS 2 #[true,true,true,true,true,true,true,false,true,false] ((AA.put (some 12) v6).put (some 3) (.pointer (some ⟨B8,0,none⟩))) wv:=by
    intro wv v6 B8 hX p6 r8 s8
    have hO1:=hO.out
    have hQ1:=hQ.out
    have hA1:=hA.out
    subst hO1
    subst hQ1
    subst hA1
    have XE:=hX.out
    have hHeld:=KP.out _ XE
    have hS1:=hSS.out
    subst hS1
    try simp only [jP,jA,jB,jC,jD,jE,jF]
    obtain ⟨a5,k5,rfl,o5⟩:=p6.out.op
    refine tkH 7 hHeld ?_
    simp only [jP,jA,jB,jC,jD,jE,jF]
    exact wpAnyH_at (L2_8 wv _ _ B8 hX.out p6.out (⟨_,_,rfl,o5⟩) r8.out s8.out) (by kernel_rfl) (by kernel_rfl) (by kernel_rfl)
   have L2_:∀ (wv:World) (v6 v7:Value),Hid (Ext w1 wv)→Hid (LsB L wv v6)→Hid (LvP pR pB L wv v7)→wpAnyH Tryz.prog .any O Q9 SS 2 #[true,true,true,true,true,true,true,true,false,false] ((AA.put (some 12) v6).put (some 13) v7) wv:=by
    intro wv v6 v7 hX p6 p7
    have hO1:=hO.out
    have hQ1:=hQ.out
    have hA1:=hA.out
    subst hO1
    subst hQ1
    subst hA1
    have XE:=hX.out
    try simp only [jP,jA,jB,jC,jD,jE,jF]
    refine rdH 8 (by kernel_rfl) rfl (fun K hK=>?_)
    go_simp
    refine hK.out _ _ (KP.out _ (Ext.trans XE (Ext.alloc _ _))) (fun _=>?_)
    clear hK K
    try simp only [jP,jA,jB,jC,jD,jE,jF]
    exact wpAnyH_at (L2_8 _ v6 v7 wv.heap.size (Ext.trans XE (Ext.alloc wv (.cells [.int .i64 0,.int .i64 0,.slice none 0 0,.slice none 0 0].toArray 50))) (p6.out.ext (Ext.alloc wv (.cells [.int .i64 0,.int .i64 0,.slice none 0 0,.slice none 0 0].toArray 50))) (p7.out.ext (Ext.alloc wv (.cells [.int .i64 0,.int .i64 0,.slice none 0 0,.slice none 0 0].toArray 50))) (Rt.new wv [.int .i64 0,.int .i64 0,.slice none 0 0,.slice none 0 0] 50) (Below.size XE)) (by kernel_rfl) (by kernel_rfl) (by kernel_rfl)
   have L0_8:∀ (wv:World) (B8:Nat),Hid (Ext w1 wv)→Hid (Rt wv B8 4 50)→Hid (w1.heap.size≤B8)→wpAnyH Tryz.prog .any O Q9 SS 3 #[true,true,true,true,true,true,false,false,true,false] (AA.put (some 3) (.pointer (some ⟨B8,0,none⟩))) wv:=by
    intro wv B8 hX r8 s8
    have hO1:=hO.out
    have hQ1:=hQ.out
    have hA1:=hA.out
    subst hO1
    subst hQ1
    subst hA1
    have XE:=hX.out
    try simp only [jP,jA,jB,jC,jD,jE,jF]
    refine rdH 6 (by kernel_rfl) rfl (fun K hK=>?_)
    go_simp
    go_at_call 27
    refine (HLS.out _ (Ext.trans B1.out XE)).mono ?_
    rintro e wn ⟨vn,rfl,bn,on⟩
    go_wp2_with fail
    refine hK.out _ _ (KP.out _ (Ext.trans XE bn)) (fun _=>?_)
    clear hK K
    try simp only [jP,jA,jB,jC,jD,jE,jF]
    exact wpAnyH_at (L1_8 wn vn B8 (Ext.trans XE bn) (on) (r8.out.ext bn) s8) (by kernel_rfl) (by kernel_rfl) (by kernel_rfl)
   have L1_:∀ (wv:World) (v6:Value),Hid (Ext w1 wv)→Hid (LsB L wv v6)→wpAnyH Tryz.prog .any O Q9 SS 3 #[true,true,true,true,true,true,true,false,false,false] (AA.put (some 12) v6) wv:=by
    intro wv v6 hX p6
    have hO1:=hO.out
    have hQ1:=hQ.out
    have hA1:=hA.out
    subst hO1
    subst hQ1
    subst hA1
    have XE:=hX.out
    have hHeld:=KP.out _ XE
    have hS1:=hSS.out
    subst hS1
    try simp only [jP,jA,jB,jC,jD,jE,jF]
    obtain ⟨a5,k5,rfl,o5⟩:=p6.out.op
    refine tkH 7 hHeld ?_
    simp only [jP,jA,jB,jC,jD,jE,jF]
    exact wpAnyH_at (L2_ wv _ _ hX.out p6.out (⟨_,_,rfl,o5⟩)) (by kernel_rfl) (by kernel_rfl) (by kernel_rfl)
   have L0_:∀ (wv:World),Hid (Ext w1 wv)→wpAnyH Tryz.prog .any O Q9 SS 4 #[true,true,true,true,true,true,false,false,false,false] AA wv:=by
    intro wv hX
    have hO1:=hO.out
    have hQ1:=hQ.out
    have hA1:=hA.out
    subst hO1
    subst hQ1
    subst hA1
    have XE:=hX.out
    try simp only [jP,jA,jB,jC,jD,jE,jF]
    refine wpAnyH_ready (rs:=[6,8]) (by kernel_rfl) (by simp) ?_
    refine AllReadyH.cons (o:=_) rfl (fun K hK=>?_) (AllReadyH.cons (o:=_) rfl (fun K hK=>?_) AllReadyH.nil)
    ·skip
     go_simp
     go_at_call 27
     refine (HLS.out _ (Ext.trans B1.out XE)).mono ?_
     rintro e wn ⟨vn,rfl,bn,on⟩
     go_wp2_with fail
     refine hK.out _ _ (KP.out _ (Ext.trans XE bn)) (fun _=>?_)
     clear hK K
     try simp only [jP,jA,jB,jC,jD,jE,jF]
     exact wpAnyH_at (L1_ wn vn (Ext.trans XE bn) (on)) (by kernel_rfl) (by kernel_rfl) (by kernel_rfl)
    ·skip
     go_simp
     refine hK.out _ _ (KP.out _ (Ext.trans XE (Ext.alloc _ _))) (fun _=>?_)
     clear hK K
     try simp only [jP,jA,jB,jC,jD,jE,jF]
     exact wpAnyH_at (L0_8 _ wv.heap.size (Ext.trans XE (Ext.alloc wv (.cells [.int .i64 0,.int .i64 0,.slice none 0 0,.slice none 0 0].toArray 50))) (Rt.new wv [.int .i64 0,.int .i64 0,.slice none 0 0,.slice none 0 0] 50) (Below.size XE)) (by kernel_rfl) (by kernel_rfl) (by kernel_rfl)
   have hO1:=hO.out
   have hQ1:=hQ.out
   have hA1:=hA.out
   subst hO1
   subst hQ1
   subst hA1
   have hS1:=hSS.out
   subst hS1
   exact wpAnyH_at (L0_ w1.drew (drew_ext w1)) (by kernel_rfl) (by kernel_rfl) (by kernel_rfl)
 case rest=>
  as_aux_lemma=>
   obtain ⟨X,aL,kL,rfl,hXX,hX2,hC2,hR2,hO2⟩:=hcut
   obtain ⟨w2,hw2⟩:∃ w0:World,w0=wc:=⟨_,rfl⟩
   subst hw2
   have HXX:Hid (w1.heap.size≤X):=hXX
   have HX2:=Lib.hid hX2
   clear hXX hX2 HLS SZ1
   obtain ⟨m,hm⟩:∃ m,L.length=m:=⟨_,rfl⟩
   have HLM:=Lib.hid hm
   rw [hm] at hC2 hO2 C1 ⊢
   clear hm
   obtain ⟨k0,k1,k2,k3⟩:=(C1.out.ext HX2.out).c4
   go_upto_region 3 with fail
   clear k0 k1 k2 k3
   go_loopw [17] (fun t wr=>∃ (j:Nat) (C:List (List Int)) (aC:Option Addr) (kC:Nat),t=.int .i64 j∧j≤nc∧Hid (Ext w1 wr)∧Hid (Bx wr X [.int .i64 pR,.int .i64 pB,.slice aL m kL,.slice aC C.length kC])∧Hid (Rt wr X 4 50)∧Hid (OwnRow 5 OwnB9 112 0 wr (.slice aL m kL) L)∧Hid (OwnRow 1 RwZ 44 w1.heap.size wr (.slice aC C.length kC) C)∧Hid (C=cls.take j)) (fun t _=>nc - (intOf t).toNat)
   case atStart=>exact ⟨0,[],none,0,rfl,Nat.zero_le _,HX2,hC2,hR2,hO2,Lib.hid (OwnRow.nil _ _ _),by rw [List.take_zero];exact Lib.hid rfl⟩
   case round=>
    clear HX2 hC2 hR2 hO2
    obtain ⟨j,C,aC,kC,rfl,hj,hX,hC,hRt,hO,hCO,hCT⟩:=hrel
    obtain ⟨w7,hw7⟩:∃ w0:World,w0=wr:=⟨_,rfl⟩
    subst hw7
    have X07:=Lib.hid (Ext.trans B1.out hX.out)
    by_cases hjn:j < nc
    ·have hd:decide ((j:Int) < (nc:Int))=true:=decide_eq_true (by omega)
     have HJ1:IntKind.i64.wrap ((j:Int)+1)=((j+1:Nat):Int):=by rw [IntKind.wrap_i64];omega
     have HJ2:(0:Int)≤(j:Int)∧(j:Int) < (nc:Int):=⟨by omega,by omega⟩
     have hjl:j < cls.length:=by rw [HNC.out];exact hjn
     obtain ⟨bC,oC,xC,mC,he,hce,hrr⟩:=RdRow.rowC (HCL.out.ext (fun h x=>RowT.ext h IntT.ext x) X07.out) j hjl
     subst he
     have HDL:Hid (cls[j].length≤70):=HCC.out _ (List.getElem_mem hjl)
     have HTK:Hid (cls.take (j+1)=cls.take j ++ [cls[j]]):=(List.take_append_getElem hjl).symm
     obtain ⟨d,hd'⟩:∃ d,cls[j]=d:=⟨_,rfl⟩
     rw [hd'] at hce hrr HDL HTK
     have HDR:=Lib.hid hrr
     obtain ⟨C2,hC2⟩:∃ C2,C ++ [d]=C2:=⟨_,rfl⟩
     obtain ⟨m2,hm2⟩:∃ m2,C.length+1=m2:=⟨_,rfl⟩
     have HC2L:Hid (C2.length=m2):=by rw [← hC2,← hm2,List.length_append];exact Lib.hid rfl
     have HC2:=Lib.hid hC2
     have HCL4:Hid (C.length≤60):=by have h1:=hCT.out;rw [h1,List.length_take];exact Lib.hid (by omega)
     have HCT2:Hid (C2=cls.take (j+1)):=by show _=_;rw [HTK.out,← hCT.out,hC2]
     clear hd' hrr hjl hC2 hm2
     go_upto_region 5 with fail
     have neS:=hCO.out.ne_rt hRt.out (by decide)
     clear hce hd
     have b8:=drew_ext w7
     have XE:=b8
     refine wp_region_noPanic ?_
     refine wp_region_cut_drew (st:=8) (S:=fun w'=>w'.cell? ⟨X,0,none⟩=some (.int .i64 pR)∧w'.cell? ⟨X,1,none⟩=some (.int .i64 pB)∧w'.cell? ⟨X,2,none⟩=some (.slice aL m kL)∧w'.cell? ⟨X,3,none⟩=some (.slice aC C.length kC)) (by kernel_rfl) ((hC.out.ext XE).c4) (fun hHeld=>?_)
     refine tkT 0 [8] hHeld ?_
     simp only [jP,jA,jB,jC,jD,jE,jF]
     refine tkT 1 [8] hHeld ?_
     simp only [jP,jA,jB,jC,jD,jE,jF]
     refine tkT 3 [8] hHeld ?_
     simp only [jP,jA,jB,jC,jD,jE,jF]
     refine wpAnyT_ready (rs:=[2]) (by kernel_rfl) (by simp) ?_
     refine AllReadyT.cons (o:=_) rfl (by rfl) (fun K hK=>?_) AllReadyT.nil
     go_simp
     refine hK.out _ _ ((hC.out.ext (Ext.trans XE (Ext.alloc _ _))).c4) (fun hHeld=>?_)
     clear hK K
     try simp only [jP,jA,jB,jC,jD,jE,jF]
     refine wpAnyT_ready (rs:=[4]) (by kernel_rfl) (by simp) ?_
     refine AllReadyT.cons (o:=_) rfl (by rfl) (fun K hK=>?_) AllReadyT.nil
     refine if_wantedL rfl ?_
     refine append_rowA (l:=([]:List Int)) etKi (kdI _) _ _ (by rfl) w7.heap.size (by rfl) ((OwnRow.nilLit (w:=w7) 3 (Nat.le_refl _)).ext IntT.ext (drew_ext _)) (by rfl) (HDR.out.ext IntT.ext (Ext.trans (Ext.alloc _ _) (drew_ext _))) (by have:=HDL.out;show (0+d.length)*8≤140737488355328;omega) (by have:=HDL.out;unfold maxLen;show 0+d.length≤_;omega) (Below.size (Ext.trans (Ext.alloc _ _) (drew_ext _))) ?_
     intro v18 w18 o18 b18 _
     have XE:Ext w7 w18:=Below.trans (Ext.trans (Ext.alloc _ _) (drew_ext _)) b18
     rw [List.nil_append] at o18
     obtain ⟨ar,kr,rfl,hro⟩:=RowY.of (TyRow.of o18)
     clear o18 b18
     refine hK.out _ _ ((hC.out.ext XE).c4) (fun hHeld=>?_)
     clear hK K
     try simp only [jP,jA,jB,jC,jD,jE,jF]
     refine wpAnyT_ready (rs:=[5]) (by kernel_rfl) (by simp) ?_
     refine AllReadyT.cons (o:=_) rfl (by rfl) (fun K hK=>?_) AllReadyT.nil
     refine if_wantedL rfl ?_
     refine build1K etCs (by rfl) (T:=RwZ) rwz_ext (by rfl) [.slice ar d.length kr] (fill_s1 ..) rfl (by decide) (y:=d) hro ?_
     intro g20 w20 x20 _ l20
     have XE:=Ext.trans XE x20
     have L20:=Lib.hid l20.rd
     clear l20
     refine hK.out _ _ ((hC.out.ext XE).c4) (fun hHeld=>?_)
     clear hK K
     try simp only [jP,jA,jB,jC,jD,jE,jF]
     refine wpAnyT_ready (rs:=[6]) (by kernel_rfl) (by simp) ?_
     refine AllReadyT.cons (o:=_) rfl (by rfl) (fun K hK=>?_) AllReadyT.nil
     refine if_wantedL rfl ?_
     refine append_rowG etCs (kdY (by decide) (kdI _)) _ _ (by rfl) w1.heap.size (by rfl) (hCO.out.ext rwz_ext XE) (by rfl) L20.out (by have:=HCL4.out;omega) (by have:=HCL4.out;unfold maxLen;omega) (Nat.le_trans (Below.size hX.out) (Below.size XE)) ?_
     intro v9 w9 o9 b9 g9 _
     have RO9:=Lib.hid ((hRt.out.ext XE).grow g9 neS)
     have DO9:=Lib.hid ((hC.out.ext XE).grow g9 neS)
     obtain ⟨nn,xs,hown⟩:=(hCO.out.ext rwz_ext XE).own
     have OA9:Hid (OwnRow 5 OwnB9 112 0 w9 (.slice aL m kL) L):=(OwnRow.grown (hO.out.ext OwnBt.ext XE) (fun _ _ h=>(kdBt (by decide) (by decide)).grown h hown g9) hown (by decide) g9)
     have XW:=Lib.hid (Below.trans hX.out (Below.trans (Below.mono XE (Below.size hX.out)) b9))
     have O9:Hid (OwnRow 1 RwZ 44 w1.heap.size w9 v9 C2):=(by rw [← HC2.out];exact o9)
     obtain ⟨a11,k11,he9,-,-⟩:=O9.out.rd.shape
     rw [HC2L.out] at he9
     subst he9
     refine hK.out _ _ (DO9.out.c4) (fun hHeld=>?_)
     clear hK K o9 hown
     try simp only [jP,jA,jB,jC,jD,jE,jF]
     refine tkT 7 [8] hHeld ?_
     simp only [jP,jA,jB,jC,jD,jE,jF]
     obtain ⟨_,_,_,_,n0,n1,n2,n3,i0,i1,i2,i3⟩:=RO9.out.c4
     refine wpAnyT_ready (rs:=[8]) (by kernel_rfl) (by simp) ?_
     refine AllReadyT.cut (o:=_) rfl (fun K hK=>?_)
     go_simp
     refine hK.out _ _ ?_
     clear hK K
     try simp only [jP,jA,jB,jC,jD,jE,jF]
     refine wpAny_done (by kernel_rfl) ?_ _
     refine NoPanic.normal ?_
     go_wp2_with fail
     go_roundw
     case rel=>exact ⟨j+1,C2,a11,k11,by go_num,by omega,putL_below HXX.out [_] 3 XW.out,by rw [HC2L.out];exact Lib.hid (DO9.out.setAt RO9.out 3 (by decide) _),RO9.out.setAt 3 _,OA9.out.putT RO9.out (by decide) 3 [_] (fun _ _ h=>OwnBt.putT h RO9.out (by decide) (by decide) 3 [_]),by rw [HC2L.out];exact Lib.hid (O9.out.putT RO9.out (by decide) 3 [_] (fun _ _ h=>RowY.putT h RO9.out (by decide) 3 [_] fun _ _ h=>h)),HCT2⟩
     case measure=>simp [intOf] <;> omega
    ·obtain rfl:j=nc:=by omega
     have hd:decide ((j:Int) < (j:Int))=false:=decide_eq_false (by omega)
     have HCE:Hid (C=cls):=by show _=_;rw [hCT.out,← HNC.out,List.take_length]
     have R25:=Lib.hid (R2.out.ext hX.out)
     obtain ⟨x0,x1,x2,x3⟩:=hC.out.c4
     obtain ⟨_,_,_,_,y0,y1,y2,y3,f0,f1,f2,f3⟩:=R25.out.c4
     go_wp2_with fail
     refine bodyPost_ret (v:=.agg #[.int .i64 pR,.int .i64 pB,.slice aL m kL,.slice aC C.length kC]) (by simp [results,Tryz.results12,go_sem,y0,y1,y2,y3]) rfl ?_
     refine hR.out _ _ (Gives.mk (putL_below (by omega) [_,_,_,_] 0 X07.out) ⟨aL,kL,aC,kC,by dsimp only;rw [HLM.out,HCE.out],?_,?_⟩)
     ·dsimp only
      rw [HLM.out]
      exact (hO.out.putT R25.out (by decide) 0 [_,_,_,_] (fun _ _ h=>OwnBt.putT h R25.out (by decide) (by decide) 0 [_,_,_,_])).rd
     ·dsimp only
      rw [← HCE.out]
      exact RdRow.mono (hCO.out.putT R25.out (by decide) 0 [_,_,_,_] (fun _ _ h=>RowY.putT h R25.out (by decide) 0 [_,_,_,_] fun _ _ h=>h)).rd fun _ _ h=>RowY.rd h
end Go.Proofs.YtdooldpgnjmpfaaGreatDoor
