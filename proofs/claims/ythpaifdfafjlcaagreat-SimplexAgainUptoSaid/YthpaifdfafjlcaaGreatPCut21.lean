/- attestlaw21.cut -/
import Derived.Test.YthpaifdfafjlcaaGreatSq
import Derived.Test.YthpaifdfafjlcaaGreatPLow16
import Derived.Test.YthpaifdfafjlcaaGreatLastT
import Derived.Test.YthpaifdfafjlcaaGreatBuildS
import Derived.Test.YthpaifdfafjlcaaGreatLinPlain
import Derived.Test.YthpaifdfafjlcaaGreatLinAll
namespace Go.Att
open Go.RowKit
def EvN (n:NN) (w:World) (v:Value):Prop:=∃ y z,v=.agg #[.slice none 0 0,.bool n.1,y,z]∧OwnN 115 w (.agg #[.bool n.1,y,z]) n
theorem EvN.ext {n:NN} {w w':World} {v:Value} (h:EvN n w v) (x:Ext w w'):EvN n w' v:=by
 obtain ⟨y,z,rfl,h⟩:=h
 exact ⟨y,z,rfl,h.ext x⟩
def AvN (n:NN) (op:Int) (w:World) (v:Value):Prop:=∃ a l c a' l' c',v=.agg #[.slice none 0 0,.bool n.1,.slice a l c,.slice a' l' c',.int .i64 op]∧OwnN 115 w (.agg #[.bool n.1,.slice a l c,.slice a' l' c']) n
theorem AvN.ext {n:NN} {op:Int} {w w':World} {v:Value} (h:AvN n op w v) (x:Ext w w'):AvN n op w' v:=by
 obtain ⟨a,l,c,a',l',c',rfl,h⟩:=h
 exact ⟨a,l,c,a',l',c',rfl,h.ext x⟩
theorem RdNp.sl {w:World} {x y z:Value} {n:NN} (h:RdNp w (.agg #[x,y,z]) n):∃ a l c a' l' c',y=.slice a l c∧z=.slice a' l' c':=by
 obtain ⟨y',z',he,h1,h2⟩:=h
 obtain ⟨-,rfl,rfl⟩:=agg3_inj he
 obtain ⟨a,c,rfl,-,-,-,-⟩:=h1.1.shape
 obtain ⟨a',c',rfl,-,-,-,-⟩:=h2.1.shape
 exact ⟨_,_,_,_,_,_,rfl,rfl⟩
theorem RdRow.nam {w:World} {a:Option Addr} {n c:Nat} {l:List NAT} (h:RdRow 5 RdNA w (.slice a n c) l) (i:Nat) (hi:i < l.length):
  ∃ b off x k y z,a=some ⟨b,off,none⟩∧Bo w b (off+i*5) [.slice x (gt l i).1.1.length k,.bool (gt l i).1.2.1,y,z,.int .i64 (gt l i).2]∧(gt l i).1.1.length≤k∧k≤maxLen∧Hid (RdRow 4 RdNT w (.slice x (gt l i).1.1.length k) (gt l i).1.1)∧Hid (RdNp w (.agg #[.bool (gt l i).1.2.1,y,z]) (gt l i).1.2):=by
 obtain ⟨b1,o1,cs,he,hl,hT,hc⟩:=h.at (by decide) i hi
 rw [← gt_lt hi] at hT
 obtain ⟨s,x,y,z,he1,h1⟩:=hT
 obtain ⟨s',y',z',he2,hr,hn⟩:=h1
 simp only [Value.agg.injEq,Array.mk.injEq,List.cons.injEq,and_true] at he2
 obtain ⟨rfl,rfl,rfl,rfl⟩:=he2
 obtain ⟨a2,k2,rfl,h3,h4⟩:=hr.shape
 have:cs=[.slice a2 (gt l i).1.1.length k2,.bool (gt l i).1.2.1,y,z,.int .i64 (gt l i).2]:=by
  simp only [Value.agg.injEq] at he1
  have:=congrArg Array.toList he1
  simpa using this
 subst this
 exact ⟨b1,o1,a2,k2,y,z,he,Bo.of hc,h3,h4,hr,hn⟩
end Go.Att
namespace Go.Proofs.YthpaifdfafjlcaaGreat
open Go.RowKit Go.Att

def cutT (t:Int × NN):Int × NN:=(t.1,oneN t.2)
def cutA (p:NAT):NAT:=(((p.1.1.take 6).map cutT,oneN p.1.2),p.2)
def cutL (l:List NAT):List NAT:=(l.take 8).map cutA
theorem cut_snoc {l:List NAT} {i:Nat} (hi:i < l.length):(l.take (i+1)).map cutA=(l.take i).map cutA ++ [cutA (gt l i)]:=by
 rw [← List.take_append_getElem hi,List.map_append,gt_lt hi];rfl
theorem cutt_snoc {l:List (Int × NN)} {i:Nat} (hi:i < l.length):(l.take (i+1)).map cutT=(l.take i).map cutT ++ [((gt l i).1,oneN (gt l i).2)]:=by
 rw [← List.take_append_getElem hi,List.map_append,gt_lt hi];rfl
abbrev OwnCt (w:World) (v:Value) (t:Int × NN):Prop:=OwnNT 115 w v t
abbrev OwnCa (w:World) (v:Value) (p:NAT):Prop:=OwnNA 115 91 w v p
theorem etCt:ElemT Tryz.prog 71 91 (.agg #[.int .i64 0,.bool false,.slice none 0 0,.slice none 0 0]) 4 64:=ElemT.mk' Tryz.underlying71 (by kernel_rfl) rfl (by decide)
theorem etCa:ElemT Tryz.prog 22 77 (.agg #[.slice none 0 0,.bool false,.slice none 0 0,.slice none 0 0,.int .i64 0]) 5 88:=ElemT.mk' Tryz.underlying22 (by kernel_rfl) rfl (by decide)
theorem meetN {w0 wv:World} {B:Nat} {n:NN} (rB:Rt wv B 5 77) (hx:Ext w0 wv) (hB:w0.heap.size≤B) {x0 y z x4:Value} (o:OwnN 115 wv (.agg #[.bool n.1,y,z]) n):
  ∃ W,W=((((wv.setCell ⟨B,0,none⟩ x0).setCell ⟨B,1,none⟩ (.bool n.1)).setCell ⟨B,2,none⟩ y).setCell ⟨B,3,none⟩ z).setCell ⟨B,4,none⟩ x4∧Ext w0 W∧Hid (Bx W B [x0,.bool n.1,y,z,x4])∧Hid (Rt W B 5 77)∧Hid (OwnN 115 W (.agg #[.bool n.1,y,z]) n):=
 ⟨Att.putL wv B 0 [x0,.bool n.1,y,z,x4],rfl,putL_below hB _ _ hx,Lib.hid (rB.putL_at [x0,.bool n.1,y,z,x4] rfl).1,Lib.hid (rB.putL_at [x0,.bool n.1,y,z,x4] rfl).2,Lib.hid (o.putT rB (by decide) 0 _)⟩
set_option maxRecDepth 100000 in
set_option maxHeartbeats 20000000 in
set_option linter.unusedSimpArgs false in
theorem cut21_any {w:World} {v:Value} {l:List NAT} (hv:RdRow 5 RdNA w v l):
  Calls Tryz.prog 13 #[v] w (Gives w fun v' w'=>OwnRow 5 OwnCa 77 w.heap.size w' v' (cutL l)):=by
 refine via fun R hR=>?_
 obtain ⟨a,c,rfl,hlc,hcm⟩:=hv.shape
 have HV:=Lib.hid hv
 unfold maxLen at hcm
 clear hv
 go_enter Tryz.func13,Tryz.ntmps13
 go_wp2_with fail
 go_loopw [3,4] (fun o t wr=>∃ i:Nat,t=.int .i64 i∧i≤l.length∧i≤8∧Ext w wr∧Hid (OwnRow 5 OwnCa 77 w.heap.size wr o ((l.take i).map cutA))) (fun _ t _=>8 - (intOf t).toNat)
 case atStart=>exact ⟨0,rfl,Nat.zero_le _,Nat.zero_le _,Ext.alloc _ _,by rw [List.take_zero];exact OwnRow.nilLit _ (Nat.le_refl _)⟩
 case round=>
  obtain ⟨i,rfl,hi,hi8,hx,hO⟩:=hrel
  obtain ⟨wo,hwo⟩:∃ w0:World,w0=wr:=⟨_,rfl⟩
  subst hwo
  by_cases hlt:i < l.length
  ·by_cases h8:i < 8
   ·have hd:decide ((i:Int) < (l.length:Int))=true:=decide_eq_true (by omega)
    have hd8:decide ((i:Int) < 8)=true:=decide_eq_true (by omega)
    have HJ1:IntKind.i64.wrap ((i:Int)+1)=((i+1:Nat):Int):=by rw [IntKind.wrap_i64];omega
    have HI2:(0:Int)≤(i:Int)∧(i:Int) < (l.length:Int):=⟨by omega,by omega⟩
    obtain ⟨bA,oA,xa,xk,xy,xz,hae,hbo,hxk,hxm,HRT,HNC⟩:=HV.out.nam i hlt
    subst hae
    have HSN:=Lib.hid (cut_snoc hlt)
    have HCA:Hid (cutA (gt l i)=((((gt l i).1.1.take 6).map cutT,oneN (gt l i).1.2),(gt l i).2)):=rfl
    have CA:=Lib.hid (hbo.ext hx)
    have hbo0:=Lib.hid hbo
    have SZA:=Lib.hid (Bo.lt (hbo.ext hx))
    have HON:Hid (∀ w',Ext wo w'→Calls Tryz.prog 33 #[.agg #[.bool (gt l i).1.2.1,xy,xz]] w' (Gives w' fun v' w'=>OwnN 115 w' v' (oneN (gt l i).1.2))):=fun w' x=>one16_own (HNC.out.ext (Ext.trans hx x))
    unfold maxLen at hxm
    clear hbo HNC
    rw [HCA.out] at HSN
    clear HCA
    generalize (gt l i).1.2.1=sg at*
    generalize oneN (gt l i).1.2=cN at*
    generalize (gt l i).2=op at*
    generalize (gt l i).1.1=lt at*
    go_upto_region 5 with (fail)
    go_cut [5] (fun s5 wx=>∃ (B:Nat) (a l c a' l' c':_),s5=.pointer (some ⟨B,0,none⟩)∧wo.heap.size≤B∧Ext wo wx∧Hid (Bx wx B [.slice none 0 0,.bool cN.1,.slice a l c,.slice a' l' c',.int .i64 op])∧Hid (Rt wx B 5 77)∧Hid (OwnN 115 wx (.agg #[.bool cN.1,.slice a l c,.slice a' l' c']) cN))
    case first=>
     as_aux_lemma=>
      obtain ⟨w1,hw1⟩:∃ w0:World,w0=wo:=⟨_,rfl⟩
      subst hw1
      refine wp_region_noPanic ?_
      refine wp_region_held_drew (S:=fun w'=>w'.cell? ⟨bA,oA+i*5,none⟩=some (.slice xa lt.length xk)∧w'.cell? ⟨bA,oA+i*5+1,none⟩=some (.bool sg)∧w'.cell? ⟨bA,oA+i*5+2,none⟩=some (xy)∧w'.cell? ⟨bA,oA+i*5+3,none⟩=some (xz)∧w'.cell? ⟨bA,oA+i*5+4,none⟩=some (.int .i64 op)) (by kernel_rfl) ((CA.out.ext (drew_ext w1)).c5) (fun hHeld=>?_)
      refine tkH 0 hHeld ?_
      simp only [jP,jA,jB,jC,jD,jE,jF]
      refine tkH 1 hHeld ?_
      simp only [jP,jA,jB,jC,jD,jE,jF]
      refine tkH 5 hHeld ?_
      simp only [jP,jA,jB,jC,jD,jE,jF]
      refine tkH 6 hHeld ?_
      simp only [jP,jA,jB,jC,jD,jE,jF]
      refine tkH 2 hHeld ?_
      simp only [jP,jA,jB,jC,jD,jE,jF]
      refine tkH 7 hHeld ?_
      simp only [jP,jA,jB,jC,jD,jE,jF]
      refine tkH 3 hHeld ?_
      simp only [jP,jA,jB,jC,jD,jE,jF]
      refine tkH 8 hHeld ?_
      simp only [jP,jA,jB,jC,jD,jE,jF]
      refine tkH 4 hHeld ?_
      simp only [jP,jA,jB,jC,jD,jE,jF]
      refine tkH 9 hHeld ?_
      simp only [jP,jA,jB,jC,jD,jE,jF]
      refine tkH 10 hHeld ?_
      simp only [jP,jA,jB,jC,jD,jE,jF]
      refine anyH_cap fun O Q9 AA hO hQ hA=>?_
      obtain ⟨SS,hSS⟩:∃ SS:World→Prop,Hid (SS=fun w'=>w'.cell? ⟨bA,oA+i*5,none⟩=some (.slice xa lt.length xk)∧w'.cell? ⟨bA,oA+i*5+1,none⟩=some (.bool sg)∧w'.cell? ⟨bA,oA+i*5+2,none⟩=some (xy)∧w'.cell? ⟨bA,oA+i*5+3,none⟩=some (xz)∧w'.cell? ⟨bA,oA+i*5+4,none⟩=some (.int .i64 op)):=⟨_,rfl⟩
      have KP:Hid (∀ wv,Ext w1 wv→SS wv):=fun wv XE=>by rw [hSS.out];exact (CA.out.ext XE).c5
      have L3_14:∀ (wv:World) (v11 v12 v13:Value) (B14:Nat),Hid (Ext w1 wv)→Hid (OwnN 115 wv v11 cN)→Hid (EvN cN wv v12)→Hid (AvN cN op wv v13)→Hid (Rt wv B14 5 77)→Hid (w1.heap.size≤B14)→wpAnyH Tryz.prog .any O Q9 SS 1 #[true,true,true,true,true,true,true,true,true,true,true,true,true,true,true,false] ((((AA.put (some 30) v11).put (some 31) v12).put (some 32) v13).put (some 5) (.pointer (some ⟨B14,0,none⟩))) wv:=by
       intro wv v11 v12 v13 B14 hX p11 p12 p13 r14 s14
       have hO1:=hO.out
       have hQ1:=hQ.out
       have hA1:=hA.out
       subst hO1
       subst hQ1
       subst hA1
       have XE:=hX.out
       have hHeld:=KP.out _ XE
       have hS1:=hSS.out
       subst hS1
       try simp only [jP,jA,jB,jC,jD,jE,jF]
       have k0_14:bA≠B14:=by have h1:=s14.out;have hz0:=SZA.out;omega
       obtain ⟨_,_,_,_,_,i14_0,i14_1,i14_2,i14_3,i14_4,f14_0,f14_1,f14_2,f14_3,f14_4⟩:=r14.out.c5
       obtain ⟨g0,g1,g2,g3,g4,g5,rfl,OO⟩:=p13.out
       refine rdH 15 (by kernel_rfl) rfl (fun K hK=>?_)
       go_simp
       refine hK.out _ _ (((CA.out.ext XE).putL k0_14 0 [_,_,_,_,_]).c5) (fun hHeld=>?_)
       clear hK K
       try simp only [jP,jA,jB,jC,jD,jE,jF]
       refine wpAnyH_done (by kernel_rfl) ?_ _
       refine NoPanic.normal ?_
       go_wp2_with fail
       go_meet
       obtain ⟨W,hW,hM1,hM2,hM3,hM4⟩:=meetN r14.out hX.out s14.out OO
       rw [← hW]
       exact ⟨B14,_,_,_,_,_,_,rfl,s14.out,hM1,hM2,hM3,hM4⟩
      have L2_14:∀ (wv:World) (v11 v12:Value) (B14:Nat),Hid (Ext w1 wv)→Hid (OwnN 115 wv v11 cN)→Hid (EvN cN wv v12)→Hid (Rt wv B14 5 77)→Hid (w1.heap.size≤B14)→wpAnyH Tryz.prog .any O Q9 SS 2 #[true,true,true,true,true,true,true,true,true,true,true,true,true,false,true,false] (((AA.put (some 30) v11).put (some 31) v12).put (some 5) (.pointer (some ⟨B14,0,none⟩))) wv:=by
       intro wv v11 v12 B14 hX p11 p12 r14 s14
       have hO1:=hO.out
       have hQ1:=hQ.out
       have hA1:=hA.out
       subst hO1
       subst hQ1
       subst hA1
       have XE:=hX.out
       have hHeld:=KP.out _ XE
       have hS1:=hSS.out
       subst hS1
       try simp only [jP,jA,jB,jC,jD,jE,jF]
       obtain ⟨f0,f1,rfl,OX⟩:=p12.out
       obtain ⟨g0,g1,g2,g3,g4,g5,he,-⟩:=OX.op
       obtain ⟨-,rfl,rfl⟩:=agg3_inj he
       refine tkH 13 hHeld ?_
       simp only [jP,jA,jB,jC,jD,jE,jF]
       exact wpAnyH_at (L3_14 wv _ _ _ B14 hX.out p11.out p12.out (⟨_,_,_,_,_,_,rfl,OX⟩) r14.out s14.out) (by kernel_rfl) (by kernel_rfl) (by kernel_rfl)
      have L3_:∀ (wv:World) (v11 v12 v13:Value),Hid (Ext w1 wv)→Hid (OwnN 115 wv v11 cN)→Hid (EvN cN wv v12)→Hid (AvN cN op wv v13)→wpAnyH Tryz.prog .any O Q9 SS 2 #[true,true,true,true,true,true,true,true,true,true,true,true,true,true,false,false] (((AA.put (some 30) v11).put (some 31) v12).put (some 32) v13) wv:=by
       intro wv v11 v12 v13 hX p11 p12 p13
       have hO1:=hO.out
       have hQ1:=hQ.out
       have hA1:=hA.out
       subst hO1
       subst hQ1
       subst hA1
       have XE:=hX.out
       try simp only [jP,jA,jB,jC,jD,jE,jF]
       refine rdH 14 (by kernel_rfl) rfl (fun K hK=>?_)
       go_simp
       refine hK.out _ _ (KP.out _ (Ext.trans XE (Ext.alloc _ _))) (fun _=>?_)
       clear hK K
       try simp only [jP,jA,jB,jC,jD,jE,jF]
       exact wpAnyH_at (L3_14 _ v11 v12 v13 wv.heap.size (Ext.trans XE (Ext.alloc wv (.cells [.slice none 0 0,.bool false,.slice none 0 0,.slice none 0 0,.int .i64 0].toArray 77))) (p11.out.ext (Ext.alloc wv (.cells [.slice none 0 0,.bool false,.slice none 0 0,.slice none 0 0,.int .i64 0].toArray 77))) (p12.out.ext (Ext.alloc wv (.cells [.slice none 0 0,.bool false,.slice none 0 0,.slice none 0 0,.int .i64 0].toArray 77))) (p13.out.ext (Ext.alloc wv (.cells [.slice none 0 0,.bool false,.slice none 0 0,.slice none 0 0,.int .i64 0].toArray 77))) (Rt.new wv [.slice none 0 0,.bool false,.slice none 0 0,.slice none 0 0,.int .i64 0] 77) (Below.size XE)) (by kernel_rfl) (by kernel_rfl) (by kernel_rfl)
      have L1_14:∀ (wv:World) (v11:Value) (B14:Nat),Hid (Ext w1 wv)→Hid (OwnN 115 wv v11 cN)→Hid (Rt wv B14 5 77)→Hid (w1.heap.size≤B14)→wpAnyH Tryz.prog .any O Q9 SS 3 #[true,true,true,true,true,true,true,true,true,true,true,true,false,false,true,false] ((AA.put (some 30) v11).put (some 5) (.pointer (some ⟨B14,0,none⟩))) wv:=by
       intro wv v11 B14 hX p11 r14 s14
       have hO1:=hO.out
       have hQ1:=hQ.out
       have hA1:=hA.out
       subst hO1
       subst hQ1
       subst hA1
       have XE:=hX.out
       have hHeld:=KP.out _ XE
       have hS1:=hSS.out
       subst hS1
       try simp only [jP,jA,jB,jC,jD,jE,jF]
       obtain ⟨f0,f1,f2,f3,f4,f5,rfl,OX⟩:=p11.out.op
       refine tkH 12 hHeld ?_
       simp only [jP,jA,jB,jC,jD,jE,jF]
       exact wpAnyH_at (L2_14 wv _ _ B14 hX.out p11.out (⟨_,_,rfl,p11.out⟩) r14.out s14.out) (by kernel_rfl) (by kernel_rfl) (by kernel_rfl)
      have L2_:∀ (wv:World) (v11 v12:Value),Hid (Ext w1 wv)→Hid (OwnN 115 wv v11 cN)→Hid (EvN cN wv v12)→wpAnyH Tryz.prog .any O Q9 SS 3 #[true,true,true,true,true,true,true,true,true,true,true,true,true,false,false,false] ((AA.put (some 30) v11).put (some 31) v12) wv:=by
       intro wv v11 v12 hX p11 p12
       have hO1:=hO.out
       have hQ1:=hQ.out
       have hA1:=hA.out
       subst hO1
       subst hQ1
       subst hA1
       have XE:=hX.out
       have hHeld:=KP.out _ XE
       have hS1:=hSS.out
       subst hS1
       try simp only [jP,jA,jB,jC,jD,jE,jF]
       obtain ⟨f0,f1,rfl,OX⟩:=p12.out
       obtain ⟨g0,g1,g2,g3,g4,g5,he,-⟩:=OX.op
       obtain ⟨-,rfl,rfl⟩:=agg3_inj he
       refine tkH 13 hHeld ?_
       simp only [jP,jA,jB,jC,jD,jE,jF]
       exact wpAnyH_at (L3_ wv _ _ _ hX.out p11.out p12.out (⟨_,_,_,_,_,_,rfl,OX⟩)) (by kernel_rfl) (by kernel_rfl) (by kernel_rfl)
      have L0_14:∀ (wv:World) (B14:Nat),Hid (Ext w1 wv)→Hid (Rt wv B14 5 77)→Hid (w1.heap.size≤B14)→wpAnyH Tryz.prog .any O Q9 SS 4 #[true,true,true,true,true,true,true,true,true,true,true,false,false,false,true,false] (AA.put (some 5) (.pointer (some ⟨B14,0,none⟩))) wv:=by
       intro wv B14 hX r14 s14
       have hO1:=hO.out
       have hQ1:=hQ.out
       have hA1:=hA.out
       subst hO1
       subst hQ1
       subst hA1
       have XE:=hX.out
       try simp only [jP,jA,jB,jC,jD,jE,jF]
       refine rdH 11 (by kernel_rfl) rfl (fun K hK=>?_)
       go_simp
       go_at_call 33
       refine (HON.out _ XE).mono ?_
       rintro e wn ⟨vn,rfl,bn,on⟩
       go_wp2_with fail
       refine hK.out _ _ (KP.out _ (Ext.trans XE bn)) (fun _=>?_)
       clear hK K
       try simp only [jP,jA,jB,jC,jD,jE,jF]
       exact wpAnyH_at (L1_14 wn vn B14 (Ext.trans XE bn) (on) (r14.out.ext bn) s14) (by kernel_rfl) (by kernel_rfl) (by kernel_rfl)
      have L1_:∀ (wv:World) (v11:Value),Hid (Ext w1 wv)→Hid (OwnN 115 wv v11 cN)→wpAnyH Tryz.prog .any O Q9 SS 4 #[true,true,true,true,true,true,true,true,true,true,true,true,false,false,false,false] (AA.put (some 30) v11) wv:=by
       intro wv v11 hX p11
       have hO1:=hO.out
       have hQ1:=hQ.out
       have hA1:=hA.out
       subst hO1
       subst hQ1
       subst hA1
       have XE:=hX.out
       have hHeld:=KP.out _ XE
       have hS1:=hSS.out
       subst hS1
       try simp only [jP,jA,jB,jC,jD,jE,jF]
       obtain ⟨f0,f1,f2,f3,f4,f5,rfl,OX⟩:=p11.out.op
       refine tkH 12 hHeld ?_
       simp only [jP,jA,jB,jC,jD,jE,jF]
       exact wpAnyH_at (L2_ wv _ _ hX.out p11.out (⟨_,_,rfl,p11.out⟩)) (by kernel_rfl) (by kernel_rfl) (by kernel_rfl)
      have L0_:∀ (wv:World),Hid (Ext w1 wv)→wpAnyH Tryz.prog .any O Q9 SS 5 #[true,true,true,true,true,true,true,true,true,true,true,false,false,false,false,false] AA wv:=by
       intro wv hX
       have hO1:=hO.out
       have hQ1:=hQ.out
       have hA1:=hA.out
       subst hO1
       subst hQ1
       subst hA1
       have XE:=hX.out
       try simp only [jP,jA,jB,jC,jD,jE,jF]
       refine wpAnyH_ready (rs:=[11,14]) (by kernel_rfl) (by simp) ?_
       refine AllReadyH.cons (o:=_) rfl (fun K hK=>?_) (AllReadyH.cons (o:=_) rfl (fun K hK=>?_) AllReadyH.nil)
       ·skip
        go_simp
        go_at_call 33
        refine (HON.out _ XE).mono ?_
        rintro e wn ⟨vn,rfl,bn,on⟩
        go_wp2_with fail
        refine hK.out _ _ (KP.out _ (Ext.trans XE bn)) (fun _=>?_)
        clear hK K
        try simp only [jP,jA,jB,jC,jD,jE,jF]
        exact wpAnyH_at (L1_ wn vn (Ext.trans XE bn) (on)) (by kernel_rfl) (by kernel_rfl) (by kernel_rfl)
       ·skip
        go_simp
        refine hK.out _ _ (KP.out _ (Ext.trans XE (Ext.alloc _ _))) (fun _=>?_)
        clear hK K
        try simp only [jP,jA,jB,jC,jD,jE,jF]
        exact wpAnyH_at (L0_14 _ wv.heap.size (Ext.trans XE (Ext.alloc wv (.cells [.slice none 0 0,.bool false,.slice none 0 0,.slice none 0 0,.int .i64 0].toArray 77))) (Rt.new wv [.slice none 0 0,.bool false,.slice none 0 0,.slice none 0 0,.int .i64 0] 77) (Below.size XE)) (by kernel_rfl) (by kernel_rfl) (by kernel_rfl)
      have hO1:=hO.out
      have hQ1:=hQ.out
      have hA1:=hA.out
      subst hO1
      subst hQ1
      subst hA1
      have hS1:=hSS.out
      subst hS1
      exact wpAnyH_at (L0_ w1.drew (drew_ext w1)) (by kernel_rfl) (by kernel_rfl) (by kernel_rfl)
    case rest=>
     as_aux_lemma=>
      obtain ⟨B,a1,l1,c1,a2,l2,c2,rfl,hBo,hX,hC,hR5,hN⟩:=hcut
      obtain ⟨w2,hw2⟩:∃ w0:World,w0=wc:=⟨_,rfl⟩
      subst hw2
      have hx2:=Ext.trans hx hX
      have HBW:Hid (wo.heap.size≤B):=hBo
      clear HON CA SZA hBo
      go_wp2_with fail
      go_loopw [6] (fun t wr=>∃ (j:Nat) (ao:Option Addr) (ko:Nat),t=.int .i64 j∧j≤lt.length∧j≤6∧Hid (Ext wo wr)∧Hid (Bx wr B [.slice ao j ko,.bool cN.1,.slice a1 l1 c1,.slice a2 l2 c2,.int .i64 op])∧Hid (Rt wr B 5 77)∧Hid (OwnN 115 wr (.agg #[.bool cN.1,.slice a1 l1 c1,.slice a2 l2 c2]) cN)∧Hid (OwnRow 4 OwnCt 91 wo.heap.size wr (.slice ao j ko) ((lt.take j).map cutT))) (fun t _=>6 - (intOf t).toNat)
      case atStart=>exact ⟨0,none,0,rfl,Nat.zero_le _,Nat.zero_le _,hX,hC,hR5,hN,by rw [List.take_zero];exact OwnRow.nil _ _ _⟩
      case round=>
       clear hC hR5 hN
       obtain ⟨j,ao,ko,rfl,hj,hj6,hXr,hC,hRt,hQ,hOr⟩:=hrel
       have hxr:=Ext.trans hx hXr.out
       have CA3:=Lib.hid (hbo0.out.ext hxr)
       obtain ⟨u0,u1,u2,u3,u4⟩:=CA3.out.c5
       clear u1 u2 u3 u4
       by_cases hjl:j < lt.length
       ·by_cases hj5:j < 6
        ·have he:=decide_eq_true (p:=(j:Int) < (lt.length:Int)) (by omega)
         have he6:decide ((j:Int) < 6)=true:=decide_eq_true (by omega)
         have HK1:IntKind.i64.wrap ((j:Int)+1)=((j+1:Nat):Int):=by rw [IntKind.wrap_i64];omega
         have HK2:(0:Int)≤(j:Int)∧(j:Int) < (lt.length:Int):=⟨by omega,by omega⟩
         have hRR:=HRT.out.ext RdNT.ext hxr
         obtain ⟨bT,oT,rfl⟩:=hRR.some_atN hjl
         obtain ⟨yy,zz,hbx,hnt⟩:=hRR.nt j hjl
         rw [← gt_lt hjl] at hbx hnt
         have HST:=Lib.hid (cutt_snoc hjl)
         have HOL:Hid (((lt.take j).map cutT).length=j):=by show _=_;rw [List.length_map,List.length_take];omega
         have HO1:Hid (((lt.take (j+1)).map cutT).length=j+1):=by show _=_;rw [List.length_map,List.length_take];omega
         have HNT:=Lib.hid hnt
         obtain ⟨ya,yl,yc,za,zl,zc,rfl,rfl⟩:=hnt.sl
         obtain ⟨t0,t1,t2,t3⟩:=hbx
         have HN4:Hid (∀ w',Ext wr w'→Calls Tryz.prog 33 #[.agg #[.bool (gt lt j).2.1,.slice ya yl yc,.slice za zl zc]] w' (Gives w' fun v' w'=>OwnN 115 w' v' (oneN (gt lt j).2))):=fun w' x=>one16_own (HNT.out.ext x)
         clear hRR hnt HNT
         obtain ⟨n4,hn4⟩:∃ n4,oneN (gt lt j).2=n4:=⟨_,rfl⟩
         rw [hn4] at HN4 HST
         have HNS:Hid (n4.1=(gt lt j).2.1):=by rw [← hn4];exact rfl
         clear hn4
         generalize (gt lt j).1=u at*
         generalize (gt lt j).2.1=sb at*
         generalize (lt.take j).map cutT=ol at*
         obtain ⟨ol2,hol2⟩:∃ ol2,(lt.take (j+1)).map cutT=ol2:=⟨_,rfl⟩
         have HOE:=Lib.hid hol2
         rw [hol2] at HST HO1
         clear hol2
         obtain ⟨w4,hw4,b4,c4,-,-⟩:=bx1 wr [.int .i64 u,.bool sb,.slice ya yl yc,.slice za zl zc] 91
         have HW:=Lib.hid hw4
         have DT:=Lib.hid c4
         clear hw4 c4
         go_upto_region 10 with (fail)
         rw [← HW.out]
         clear HW u0 t0 t1 t2 t3
         have DO:=Lib.hid (hC.out.ext b4)
         have hRt4:=Lib.hid (hRt.out.ext b4)
         have hO4:=Lib.hid (hOr.out.ext OwnNT.ext b4)
         have hQ4:=Lib.hid (hQ.out.ext b4)
         have neO:=hOr.out.ne_rt hRt.out (by decide)
         have neT:=hOr.out.ne_new
         have hb4:=Ext.trans hXr.out b4
         have hsz4:wo.heap.size≤w4.heap.size:=Below.size hb4
         have b5:=drew_ext w4
         have XE:=b5
         refine wp_region_noPanic ?_
         refine wp_region_cut_drew (st:=13) (S:=fun w'=>(w'.cell? ⟨B,0,none⟩=some (.slice ao j ko))∧(w'.cell? ⟨wr.heap.size,0,none⟩=some (.int .i64 u)∧w'.cell? ⟨wr.heap.size,1,none⟩=some (.bool sb)∧w'.cell? ⟨wr.heap.size,2,none⟩=some (.slice ya yl yc)∧w'.cell? ⟨wr.heap.size,3,none⟩=some (.slice za zl zc))) (by kernel_rfl) (⟨(DO.out.ext XE).c1,(DT.out.ext XE).c4⟩) (fun hHeld=>?_)
         refine tkT 0 [13] hHeld ?_
         simp only [jP,jA,jB,jC,jD,jE,jF]
         refine tkT 1 [13] hHeld ?_
         simp only [jP,jA,jB,jC,jD,jE,jF]
         refine tkT 2 [13] hHeld ?_
         simp only [jP,jA,jB,jC,jD,jE,jF]
         refine tkT 3 [13] hHeld ?_
         simp only [jP,jA,jB,jC,jD,jE,jF]
         refine tkT 4 [13] hHeld ?_
         simp only [jP,jA,jB,jC,jD,jE,jF]
         refine tkT 5 [13] hHeld ?_
         simp only [jP,jA,jB,jC,jD,jE,jF]
         refine tkT 6 [13] hHeld ?_
         simp only [jP,jA,jB,jC,jD,jE,jF]
         refine wpAnyT_ready (rs:=[7]) (by kernel_rfl) (by simp) ?_
         refine AllReadyT.cons (o:=_) rfl (by rfl) (fun K hK=>?_) AllReadyT.nil
         go_simp
         go_at_call 33;refine (HN4.out _ (Ext.trans b4 XE)).mono ?_;rintro e w6 ⟨v6,rfl,b6,o6⟩;have O6:=Lib.hid o6;clear o6;(first | have XE:=Ext.trans XE b6 | have XE:=Ext.trans (Ext.trans XE (Ext.alloc _ _)) b6);obtain ⟨e6,n6,g6,f6,m6,h6,rfl,P6⟩:=O6.out.op;rw [HNS.out]
         go_wp2_with fail
         refine hK.out _ _ (⟨(DO.out.ext XE).c1,(DT.out.ext XE).c4⟩) (fun hHeld=>?_)
         clear hK K
         try simp only [jP,jA,jB,jC,jD,jE,jF]
         refine tkT 8 [13] hHeld ?_
         simp only [jP,jA,jB,jC,jD,jE,jF]
         refine wpAnyT_ready (rs:=[9]) (by kernel_rfl) (by simp) ?_
         refine AllReadyT.cons (o:=_) rfl (by rfl) (fun K hK=>?_) AllReadyT.nil
         go_simp
         refine hK.out _ _ (⟨(DO.out.ext (Ext.trans XE (Ext.alloc _ _))).c1,(DT.out.ext (Ext.trans XE (Ext.alloc _ _))).c4⟩) (fun hHeld=>?_)
         clear hK K
         try simp only [jP,jA,jB,jC,jD,jE,jF]
         refine wpAnyT_ready (rs:=[10]) (by kernel_rfl) (by simp) ?_
         refine AllReadyT.cons (o:=_) rfl (by rfl) (fun K hK=>?_) AllReadyT.nil
         refine if_wantedL rfl ?_
         refine append_row (y:=(u,n4)) etCt (kdNT (e:=115) (by decide)) _ _ (by rfl) wo.heap.size (by rfl) _ (by rfl) (hO4.out.ext OwnNT.ext XE) rfl ⟨_,_,by rw [← HNS.out],P6.out⟩ (Nat.le_trans hsz4 (Below.size XE)) (by have:=HOL.out;omega) (by have:=HOL.out;unfold maxLen;omega) ?_
         intro v9 w9 o9 b9 g9
         have xA:=Ext.trans XE (Ext.alloc w6 (.cells #[.int .i64 u,.bool sb,.slice e6 n6 g6,.slice f6 m6 h6] 91))
         have RO9:=Lib.hid ((hRt4.out.ext xA).grow g9 neO)
         have DO9:=Lib.hid ((DO.out.ext xA).grow g9 neO)
         obtain ⟨nn,xs,hown⟩:=((hO4.out.ext OwnNT.ext xA)).own
         have HQ9:=Lib.hid (OwnN.grown (hQ4.out.ext xA) hown (by decide) g9)
         have XW:=Lib.hid (Below.trans hb4 (Below.trans (Below.mono XE hsz4) b9))
         have O9:Hid (OwnRow 4 OwnCt 91 wo.heap.size w9 v9 ol2):=(by rw [HST.out];exact o9)
         obtain ⟨a11,k11,he9,-,-⟩:=O9.out.rd.shape
         rw [HO1.out] at he9
         subst he9
         refine hK.out _ _ ⟨DO9.out.c1,((DT.out.ext xA).grow g9 neT).c4⟩ (fun hHeld=>?_)
         clear hK K o9 hown
         try simp only [jP,jA,jB,jC,jD,jE,jF]
         refine tkT 11 [12,13] hHeld ?_
         simp only [jP,jA,jB,jC,jD,jE,jF]
         refine tkT 12 [13] hHeld ?_
         simp only [jP,jA,jB,jC,jD,jE,jF]
         obtain ⟨_,_,_,_,_,n0,n1,n2,n3,n5,i0,i1,i2,i3,i5⟩:=RO9.out.c5
         refine wpAnyT_ready (rs:=[13]) (by kernel_rfl) (by simp) ?_
         refine AllReadyT.cut (o:=_) rfl (fun K hK=>?_)
         go_simp
         refine hK.out _ _ ?_
         clear hK K
         try simp only [jP,jA,jB,jC,jD,jE,jF]
         refine wpAny_done (by kernel_rfl) ?_ _
         refine NoPanic.normal ?_
         go_wp2_with fail
         go_roundw
         case rel=>exact ⟨j+1,a11,k11,by go_num,by omega,by omega,putL_below HBW.out [_] 0 XW.out,DO9.out.set0 RO9.out (by decide) _,RO9.out.set0 _,HQ9.out.putT RO9.out (by decide) 0 [_],by rw [HOE.out];exact O9.out.putT RO9.out (by decide) 0 [_] (fun v a h=>h.putT RO9.out (by decide) 0 [_])⟩
         case measure=>simp [intOf] <;> omega
        ·have he6:decide ((j:Int) < 6)=false:=decide_eq_false (by omega)
         have he:=decide_eq_true (p:=(j:Int) < (lt.length:Int)) (by omega)
         have HTE:Hid ((lt.take j).map cutT=(lt.take 6).map cutT):=by show _=_;rw [show j=6 by omega]
         rw [HTE.out] at hOr
         have HQN:Hid (OwnCa wr (.agg #[.slice ao j ko,.bool cN.1,.slice a1 l1 c1,.slice a2 l2 c2,.int .i64 op]) (((lt.take 6).map cutT,cN),op)):=⟨_,_,_,rfl,hOr.out.mono (Nat.zero_le _),hQ.out⟩
         have hO9:=Lib.hid (hO.out.ext OwnNA.ext hXr.out)
         have HKL:Hid (((l.take i).map cutA).length≤8):=by show _≤_;rw [List.length_map,List.length_take];omega
         obtain ⟨k0,k1,k2,k3,k4⟩:=hC.out.c5
         clear HTE hOr hQ hRt hO HRT
         go_upto_region 11 with (fail)
         obtain ⟨pq,hpq⟩:∃ pq:NAT,(((lt.take 6).map cutT,cN),op)=pq:=⟨_,rfl⟩
         rw [hpq] at HQN HSN
         clear hpq
         obtain ⟨ol,hol⟩:∃ ol,(l.take i).map cutA=ol:=⟨_,rfl⟩
         rw [hol] at HKL HSN hO9
         clear hol
         obtain ⟨ol2,hol2⟩:∃ ol2,(l.take (i+1)).map cutA=ol2:=⟨_,rfl⟩
         have HOE:=Lib.hid hol2
         rw [hol2] at HSN
         clear hol2
         go_wp2_with (refine build1W etCa (by rfl) (by rfl) (T:=OwnCa) OwnNA.ext (by rfl) [.slice ao j ko,.bool cN.1,.slice a1 l1 c1,.slice a2 l2 c2,.int .i64 op] (fill_a1 ..) rfl (by decide) HQN.out ?_;intro g8 w8 x8 _ l8;refine append_rowGL etCa (kdNA (by decide) (by decide)) (by rfl) _ _ (by rfl) w.heap.size (by rfl) (hO9.out.ext OwnNA.ext x8) (by rfl) l8.rd (by have:=HKL.out;omega) (by unfold maxLen;have:=HKL.out;omega) (Below.size (Ext.trans hxr x8)) ?_;intro v9 w9 o9 b9 g9 _)
         go_roundw
         case rel=>exact ⟨i+1,by go_num,by omega,by omega,Below.trans (Ext.trans hxr x8) b9,by rw [HOE.out,HSN.out];exact o9⟩
         case measure=>simp [intOf] <;> omega
       ·have he:=decide_eq_false (p:=(j:Int) < (lt.length:Int)) (by omega)
        have HTE:Hid ((lt.take j).map cutT=(lt.take 6).map cutT):=by show _=_;rw [List.take_of_length_le (show lt.length≤j by omega),List.take_of_length_le (show lt.length≤6 by omega)]
        rw [HTE.out] at hOr
        have HQN:Hid (OwnCa wr (.agg #[.slice ao j ko,.bool cN.1,.slice a1 l1 c1,.slice a2 l2 c2,.int .i64 op]) (((lt.take 6).map cutT,cN),op)):=⟨_,_,_,rfl,hOr.out.mono (Nat.zero_le _),hQ.out⟩
        have hO9:=Lib.hid (hO.out.ext OwnNA.ext hXr.out)
        have HKL:Hid (((l.take i).map cutA).length≤8):=by show _≤_;rw [List.length_map,List.length_take];omega
        obtain ⟨k0,k1,k2,k3,k4⟩:=hC.out.c5
        clear HTE hOr hQ hRt hO HRT
        go_upto_region 11 with (fail)
        obtain ⟨pq,hpq⟩:∃ pq:NAT,(((lt.take 6).map cutT,cN),op)=pq:=⟨_,rfl⟩
        rw [hpq] at HQN HSN
        clear hpq
        obtain ⟨ol,hol⟩:∃ ol,(l.take i).map cutA=ol:=⟨_,rfl⟩
        rw [hol] at HKL HSN hO9
        clear hol
        obtain ⟨ol2,hol2⟩:∃ ol2,(l.take (i+1)).map cutA=ol2:=⟨_,rfl⟩
        have HOE:=Lib.hid hol2
        rw [hol2] at HSN
        clear hol2
        go_wp2_with (refine build1W etCa (by rfl) (by rfl) (T:=OwnCa) OwnNA.ext (by rfl) [.slice ao j ko,.bool cN.1,.slice a1 l1 c1,.slice a2 l2 c2,.int .i64 op] (fill_a1 ..) rfl (by decide) HQN.out ?_;intro g8 w8 x8 _ l8;refine append_rowGL etCa (kdNA (by decide) (by decide)) (by rfl) _ _ (by rfl) w.heap.size (by rfl) (hO9.out.ext OwnNA.ext x8) (by rfl) l8.rd (by have:=HKL.out;omega) (by unfold maxLen;have:=HKL.out;omega) (Below.size (Ext.trans hxr x8)) ?_;intro v9 w9 o9 b9 g9 _)
        go_roundw
        case rel=>exact ⟨i+1,by go_num,by omega,by omega,Below.trans (Ext.trans hxr x8) b9,by rw [HOE.out,HSN.out];exact o9⟩
        case measure=>simp [intOf] <;> omega
   ·have hd8:decide ((i:Int) < 8)=false:=decide_eq_false (by omega)
    have hd:decide ((i:Int) < (l.length:Int))=true:=decide_eq_true (by omega)
    have HE:Hid ((l.take i).map cutA=cutL l):=by show _=(l.take 8).map cutA;rw [show i=8 by omega]
    go_wp2_with fail
    exact hR.out _ _ (Gives.mk hx (by rw [← HE.out];exact hO.out))
  ·have hd:decide ((i:Int) < (l.length:Int))=false:=decide_eq_false (by omega)
   have HE:Hid ((l.take i).map cutA=cutL l):=by show _=(l.take 8).map cutA;rw [List.take_of_length_le (show l.length≤i by omega),List.take_of_length_le (show l.length≤8 by omega)]
   go_wp2_with fail
   exact hR.out _ _ (Gives.mk hx (by rw [← HE.out];exact hO.out))
end Go.Proofs.YthpaifdfafjlcaaGreat
