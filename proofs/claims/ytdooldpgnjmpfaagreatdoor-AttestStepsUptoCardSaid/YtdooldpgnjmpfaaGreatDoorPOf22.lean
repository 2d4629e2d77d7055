/- attestlaw22.Of: the program's steps -/
import Derived.Test.YtdooldpgnjmpfaaGreatDoorSq
import Derived.Test.YtdooldpgnjmpfaaGreatDoorPartCC
import Derived.Test.YtdooldpgnjmpfaaGreatDoorPartAJ
import Derived.Test.YtdooldpgnjmpfaaGreatDoorPartBI
import Derived.Test.YtdooldpgnjmpfaaGreatDoorPartBJ
import Derived.Test.YtdooldpgnjmpfaaGreatDoorPartAG
namespace Go.Att
open Go.RowKit
theorem fill_r1 (x0 x1 x2:Value):
  Instr.fill (fun i=>some (i*3,3)) ((Array.range (1*3)).map ((Value.agg #[.bool false,.slice none 0 0,.slice none 0 0]).cells[· % (Value.agg #[.bool false,.slice none 0 0,.slice none 0 0]).cells.size]!)) [(0,.agg #[x0,x1,x2])]=some #[x0,x1,x2]:=by kernel_rfl
theorem fill_t1 (x0 x1 x2 x3 x4:Value):
  Instr.fill (fun i=>some (i*5,5)) ((Array.range (1*5)).map ((Value.agg #[.int .i64 0,.slice none 0 0,.int .i64 0,.slice none 0 0,.slice none 0 0]).cells[· % (Value.agg #[.int .i64 0,.slice none 0 0,.int .i64 0,.slice none 0 0,.slice none 0 0]).cells.size]!)) [(0,.agg #[x0,x1,x2,x3,x4])]=some #[x0,x1,x2,x3,x4]:=by kernel_rfl
end Go.Att
namespace Go.Proofs.YtdooldpgnjmpfaaGreatDoor
open Go.RowKit Go.Att

def SqOk (s:Sq Rat):Prop:=s.1.2.length≤40∧(∀ z∈s.1.2,In64 z)∧s.2.2.1.length≤40∧(∀ z∈s.2.2.1,In64 z)∧s.2.2.2.length≤40∧∀ q∈s.2.2.2,Sz 8 q
abbrev QnS (w:World) (v:Value) (s:Sq Rat):Prop:=RdSq (TyRow 1 IntT 3) (TyRow 3 (OwnQp 119) 59) w v s
theorem qns_ext {w w':World} {v:Value} {s:Sq Rat} (h:QnS w v s) (x:Ext w w'):QnS w' v s:=RdSq.ext h (fun h x=>h.ext IntT.ext x) (fun h x=>h.ext OwnQ.ext x) x
theorem etSt:ElemT Tryz.prog 42 46 (.agg #[.int .i64 0,.slice none 0 0,.int .i64 0,.slice none 0 0,.slice none 0 0]) 5 88:=ElemT.mk' Tryz.underlying42 (by kernel_rfl) rfl (by decide)
def RnZ (l:List Int) (w:World) (v:Value):Prop:=OwnRow 1 IntT 3 0 w v l
theorem RnZ.ext {l:List Int} {w w':World} {v:Value} (h:RnZ l w v) (x:Ext w w'):RnZ l w' v:=OwnRow.ext h IntT.ext x
theorem RnZ.op {l:List Int} {w:World} {v:Value} (h:RnZ l w v):∃ a k,v=.slice a l.length k∧RnZ l w (.slice a l.length k):=by
 obtain ⟨a,c,rfl,-,-⟩:=(OwnRow.rd h).shape
 exact ⟨a,c,rfl,h⟩
def LvS (ru ix:Int) (c p:List Int) (w:World) (v:Value):Prop:=∃ a k b m,v=.agg #[.int .i64 ru,.slice a c.length k,.int .i64 ix,.slice b p.length m,.slice none 0 0]∧RnZ c w (.slice a c.length k)∧RnZ p w (.slice b p.length m)
theorem LvS.ext {ru ix:Int} {c p:List Int} {w w':World} {v:Value} (h:LvS ru ix c p w v) (x:Ext w w'):LvS ru ix c p w' v:=by
 obtain ⟨a,k,b,m,rfl,h1,h2⟩:=h
 exact ⟨a,k,b,m,rfl,h1.ext x,h2.ext x⟩
set_option maxHeartbeats 4000000 in
theorem meetS {w0 wv:World} {B:Nat} {c p:List Int} (rB:Rt wv B 5 46) (hx:Ext w0 wv) (hB:w0.heap.size≤B) {x0 y x2 z x4:Value} (o:RnZ c wv y) (o':RnZ p wv z):
  ∃ W,W=((((wv.setCell ⟨B,0,none⟩ x0).setCell ⟨B,1,none⟩ y).setCell ⟨B,2,none⟩ x2).setCell ⟨B,3,none⟩ z).setCell ⟨B,4,none⟩ x4∧Ext w0 W∧Hid (Bx W B [x0,y,x2,z,x4])∧Hid (Rt W B 5 46)∧Hid (RnZ c W y)∧Hid (RnZ p W z):=
 ⟨Att.putL wv B 0 [x0,y,x2,z,x4],rfl,putL_below hB _ _ hx,Lib.hid (rB.putL_at [x0,y,x2,z,x4] rfl).1,Lib.hid (rB.putL_at [x0,y,x2,z,x4] rfl).2,Lib.hid (OwnRow.putT o rB (by decide) 0 _ fun _ _ h=>h),Lib.hid (OwnRow.putT o' rB (by decide) 0 _ fun _ _ h=>h)⟩
set_option maxRecDepth 100000 in
set_option maxHeartbeats 20000000 in
set_option linter.unusedSimpArgs false in
theorem of22_any {w:World} {v:Value} {l:List (Sq NN)} (hv:RdRow 5 (RdSq (RdRow 1 IntT) (RdRow 3 RdNp)) w v l) (hz:∀ s∈l,(∀ z∈s.1.2,In64 z)∧∀ z∈s.2.2.1,In64 z) (hs:∀ s∈l,∀ t∈s.2.2.2,Nlt 1000000000 t):
  Calls Tryz.prog 9 #[v] w (Gives w fun v' w'=>∃ L:List (Sq Rat),OwnRow 5 QnS 46 w.heap.size w' v' L∧L.length≤60∧∀ s∈L,SqOk s):=by
 refine via fun R hR=>?_
 obtain ⟨a,c,rfl,hlc,hcm⟩:=hv.shape
 have HV:=Lib.hid hv
 have HZ:=Lib.hid hz
 have HS:=Lib.hid hs
 unfold maxLen at hcm
 clear hv hz hs
 go_enter Tryz.func9,Tryz.ntmps9
 go_wp2_with fail
 go_loopw [3,4] (fun o t wr=>∃ (i:Nat) (L:List (Sq Rat)),t=.int .i64 i∧i≤l.length∧i≤60∧Hid (Ext w wr)∧Hid (OwnRow 5 QnS 46 w.heap.size wr o L)∧Hid (L.length≤i)∧Hid (∀ s∈L,SqOk s)) (fun _ t _=>60 - (intOf t).toNat)
 case atStart=>exact ⟨0,[],rfl,Nat.zero_le _,Nat.zero_le _,Lib.hid (Ext.alloc _ _),Lib.hid (OwnRow.nilLit _ (Nat.le_refl _)),Lib.hid (Nat.le_refl _),Lib.hid fun s h=>by cases h⟩
 case round=>
  obtain ⟨i,L,rfl,hi,hi6,hX,hO,hLn,hLk⟩:=hrel
  obtain ⟨w4,hw4⟩:∃ w0:World,w0=wr:=⟨_,rfl⟩
  subst hw4
  by_cases hlt:i < l.length
  ·by_cases h60:i < 60
   ·have hd:decide ((i:Int) < (l.length:Int))=true:=decide_eq_true (by omega)
    have hd8:decide ((i:Int) < 60)=true:=decide_eq_true (by omega)
    have HJ1:IntKind.i64.wrap ((i:Int)+1)=((i+1:Nat):Int):=by rw [IntKind.wrap_i64];omega
    have HI2:(0:Int)≤(i:Int)∧(i:Int) < (l.length:Int):=⟨by omega,by omega⟩
    obtain ⟨bL,oL,ax,mx',ay,my,az,mz,hae,hbo,hRC,hRP,hRT⟩:=(HV.out.ext (fun h x=>RdSq.ext h (fun h x=>h.ext IntT.ext x) (fun h x=>h.ext RdNp.ext x) x) hX.out).sq i hlt
    subst hae
    have HNN:=Lib.hid (HS.out _ (List.getElem_mem hlt))
    have HZZ:=Lib.hid (HZ.out _ (List.getElem_mem hlt))
    obtain ⟨⟨⟨ru,cl⟩,ix,pr,ts⟩,hl⟩:∃ s,l[i]=s:=⟨_,rfl⟩
    rw [hl] at hbo hRC hRP hRT HNN HZZ
    dsimp only at hbo hRC hRP hRT HNN HZZ
    clear hl
    have CB:=Lib.hid hbo
    have HRT:=Lib.hid hRT
    have HC:Hid (∀ w',Ext w4 w'→Calls Tryz.prog 23 #[.slice ax cl.length mx'] w' (Gives w' fun v' w'=>RnZ (cl.take 40) w' v')):=fun w' x=>(ints22_any (hRC.ext IntT.ext x)).mono fun _ _ ⟨v,e,b,o⟩=>⟨v,e,b,o.mono (Nat.zero_le _)⟩
    have HP:Hid (∀ w',Ext w4 w'→Calls Tryz.prog 23 #[.slice ay pr.length my] w' (Gives w' fun v' w'=>RnZ (pr.take 40) w' v')):=fun w' x=>(ints22_any (hRP.ext IntT.ext x)).mono fun _ _ ⟨v,e,b,o⟩=>⟨v,e,b,o.mono (Nat.zero_le _)⟩
    clear hRC hRP hRT hbo
    have HCK:Hid ((cl.take 40).length≤40∧(∀ z∈cl.take 40,In64 z)∧(pr.take 40).length≤40∧∀ z∈pr.take 40,In64 z):=⟨by rw [List.length_take];omega,fun z h=>HZZ.out.1 z (List.mem_of_mem_take h),by rw [List.length_take];omega,fun z h=>HZZ.out.2 z (List.mem_of_mem_take h)⟩
    clear HZZ
    generalize cl.length=ncl at*
    generalize pr.length=npr at*
    generalize cl.take 40=cl2 at*
    generalize pr.take 40=pr2 at*
    have SZ4:Hid (bL < w4.heap.size):=Lib.hid (World.block_lt_of_cell? w4 _ CB.out.c5.1)
    go_upto_region 5 with (fail)
    go_cut [5] (fun s5 wx=>∃ (X:Nat) (ac:Option Addr) (kc:Nat) (ap:Option Addr) (kp:Nat),s5=.pointer (some ⟨X,0,none⟩)∧w4.heap.size≤X∧Ext w4 wx∧Hid (Bx wx X [.int .i64 ru,.slice ac cl2.length kc,.int .i64 ix,.slice ap pr2.length kp,.slice none 0 0])∧Hid (Rt wx X 5 46)∧Hid (RnZ cl2 wx (.slice ac cl2.length kc))∧Hid (RnZ pr2 wx (.slice ap pr2.length kp)))
    case first=>
     as_aux_lemma=>
      refine wp_region_noPanic ?_
      refine wp_region_held_drew (S:=fun w'=>w'.cell? ⟨bL,oL+i*5,none⟩=some (.int .i64 ru)∧w'.cell? ⟨bL,oL+i*5+1,none⟩=some (.slice ax ncl mx')∧w'.cell? ⟨bL,oL+i*5+2,none⟩=some (.int .i64 ix)∧w'.cell? ⟨bL,oL+i*5+3,none⟩=some (.slice ay npr my)∧w'.cell? ⟨bL,oL+i*5+4,none⟩=some (.slice az ts.length mz)) (by kernel_rfl) ((CB.out.ext (drew_ext w4)).c5) (fun hHeld=>?_)
      refine tkH 0 hHeld ?_
      simp only [jP,jA,jB,jC,jD,jE,jF]
      refine tkH 1 hHeld ?_
      simp only [jP,jA,jB,jC,jD,jE,jF]
      refine tkH 5 hHeld ?_
      simp only [jP,jA,jB,jC,jD,jE,jF]
      refine tkH 6 hHeld ?_
      simp only [jP,jA,jB,jC,jD,jE,jF]
      refine tkH 11 hHeld ?_
      simp only [jP,jA,jB,jC,jD,jE,jF]
      refine tkH 12 hHeld ?_
      simp only [jP,jA,jB,jC,jD,jE,jF]
      refine tkH 16 hHeld ?_
      simp only [jP,jA,jB,jC,jD,jE,jF]
      refine tkH 17 hHeld ?_
      simp only [jP,jA,jB,jC,jD,jE,jF]
      refine tkH 2 hHeld ?_
      simp only [jP,jA,jB,jC,jD,jE,jF]
      refine tkH 7 hHeld ?_
      simp only [jP,jA,jB,jC,jD,jE,jF]
      refine tkH 13 hHeld ?_
      simp only [jP,jA,jB,jC,jD,jE,jF]
      refine tkH 18 hHeld ?_
      simp only [jP,jA,jB,jC,jD,jE,jF]
      refine tkH 3 hHeld ?_
      simp only [jP,jA,jB,jC,jD,jE,jF]
      refine tkH 8 hHeld ?_
      simp only [jP,jA,jB,jC,jD,jE,jF]
      refine tkH 14 hHeld ?_
      simp only [jP,jA,jB,jC,jD,jE,jF]
      refine tkH 19 hHeld ?_
      simp only [jP,jA,jB,jC,jD,jE,jF]
      refine tkH 4 hHeld ?_
      simp only [jP,jA,jB,jC,jD,jE,jF]
      refine tkH 9 hHeld ?_
      simp only [jP,jA,jB,jC,jD,jE,jF]
      refine tkH 15 hHeld ?_
      simp only [jP,jA,jB,jC,jD,jE,jF]
      refine tkH 20 hHeld ?_
      simp only [jP,jA,jB,jC,jD,jE,jF]
      refine anyH_cap fun O Q9 AA hO hQ hA=>?_
      obtain ⟨SS,hSS⟩:∃ SS:World→Prop,Hid (SS=fun w'=>w'.cell? ⟨bL,oL+i*5,none⟩=some (.int .i64 ru)∧w'.cell? ⟨bL,oL+i*5+1,none⟩=some (.slice ax ncl mx')∧w'.cell? ⟨bL,oL+i*5+2,none⟩=some (.int .i64 ix)∧w'.cell? ⟨bL,oL+i*5+3,none⟩=some (.slice ay npr my)∧w'.cell? ⟨bL,oL+i*5+4,none⟩=some (.slice az ts.length mz)):=⟨_,rfl⟩
      have KP:Hid (∀ wv,Ext w4 wv→SS wv):=fun wv XE=>by rw [hSS.out];exact (CB.out.ext XE).c5
      have L3_23:∀ (wv:World) (v10 v21 v22:Value) (B23:Nat),Hid (Ext w4 wv)→Hid (RnZ cl2 wv v10)→Hid (RnZ pr2 wv v21)→Hid (LvS ru ix cl2 pr2 wv v22)→Hid (Rt wv B23 5 46)→Hid (w4.heap.size≤B23)→wpAnyH Tryz.prog .any O Q9 SS 1 #[true,true,true,true,true,true,true,true,true,true,true,true,true,true,true,true,true,true,true,true,true,true,true,true,false] ((((AA.put (some 28) v10).put (some 39) v21).put (some 40) v22).put (some 5) (.pointer (some ⟨B23,0,none⟩))) wv:=by
       intro wv v10 v21 v22 B23 hX p10 p21 p22 r23 s23
       have hO1:=hO.out
       have hQ1:=hQ.out
       have hA1:=hA.out
       subst hO1
       subst hQ1
       subst hA1
       have XE:=hX.out
       have hHeld:=KP.out _ XE
       have hS1:=hSS.out
       subst hS1
       try simp only [jP,jA,jB,jC,jD,jE,jF]
       have k0_23:bL≠B23:=by have h1:=s23.out;have hz0:=SZ4.out;omega
       obtain ⟨_,_,_,_,_,i23_0,i23_1,i23_2,i23_3,i23_4,f23_0,f23_1,f23_2,f23_3,f23_4⟩:=r23.out.c5
       obtain ⟨a9,k9,b9,m9,rfl,OC,OP⟩:=p22.out
       refine rdH 24 (by kernel_rfl) rfl (fun K hK=>?_)
       go_simp
       refine hK.out _ _ (((CB.out.ext XE).putL k0_23 0 [_,_,_,_,_]).c5) (fun hHeld=>?_)
       clear hK K
       try simp only [jP,jA,jB,jC,jD,jE,jF]
       refine wpAnyH_done (by kernel_rfl) ?_ _
       refine NoPanic.normal ?_
       go_wp2_with fail
       go_meet
       obtain ⟨W,hW,hM1,hM2,hM3,hM4,hM5⟩:=meetS r23.out hX.out s23.out OC OP
       rw [← hW]
       exact ⟨B23,_,_,_,_,rfl,s23.out,hM1,hM2,hM3,hM4,hM5⟩
      have L2_23:∀ (wv:World) (v10 v21:Value) (B23:Nat),Hid (Ext w4 wv)→Hid (RnZ cl2 wv v10)→Hid (RnZ pr2 wv v21)→Hid (Rt wv B23 5 46)→Hid (w4.heap.size≤B23)→wpAnyH Tryz.prog .any O Q9 SS 2 #[true,true,true,true,true,true,true,true,true,true,true,true,true,true,true,true,true,true,true,true,true,true,false,true,false] (((AA.put (some 28) v10).put (some 39) v21).put (some 5) (.pointer (some ⟨B23,0,none⟩))) wv:=by
       intro wv v10 v21 B23 hX p10 p21 r23 s23
       have hO1:=hO.out
       have hQ1:=hQ.out
       have hA1:=hA.out
       subst hO1
       subst hQ1
       subst hA1
       have XE:=hX.out
       have hHeld:=KP.out _ XE
       have hS1:=hSS.out
       subst hS1
       try simp only [jP,jA,jB,jC,jD,jE,jF]
       obtain ⟨a5,k5,rfl,o5⟩:=p10.out.op
       obtain ⟨a6,k6,rfl,o6⟩:=p21.out.op
       refine tkH 22 hHeld ?_
       simp only [jP,jA,jB,jC,jD,jE,jF]
       exact wpAnyH_at (L3_23 wv _ _ _ B23 hX.out p10.out p21.out (⟨_,_,_,_,rfl,o5,o6⟩) r23.out s23.out) (by kernel_rfl) (by kernel_rfl) (by kernel_rfl)
      have L3_:∀ (wv:World) (v10 v21 v22:Value),Hid (Ext w4 wv)→Hid (RnZ cl2 wv v10)→Hid (RnZ pr2 wv v21)→Hid (LvS ru ix cl2 pr2 wv v22)→wpAnyH Tryz.prog .any O Q9 SS 2 #[true,true,true,true,true,true,true,true,true,true,true,true,true,true,true,true,true,true,true,true,true,true,true,false,false] (((AA.put (some 28) v10).put (some 39) v21).put (some 40) v22) wv:=by
       intro wv v10 v21 v22 hX p10 p21 p22
       have hO1:=hO.out
       have hQ1:=hQ.out
       have hA1:=hA.out
       subst hO1
       subst hQ1
       subst hA1
       have XE:=hX.out
       try simp only [jP,jA,jB,jC,jD,jE,jF]
       refine rdH 23 (by kernel_rfl) rfl (fun K hK=>?_)
       go_simp
       refine hK.out _ _ (KP.out _ (Ext.trans XE (Ext.alloc _ _))) (fun _=>?_)
       clear hK K
       try simp only [jP,jA,jB,jC,jD,jE,jF]
       exact wpAnyH_at (L3_23 _ v10 v21 v22 wv.heap.size (Ext.trans XE (Ext.alloc wv (.cells [.int .i64 0,.slice none 0 0,.int .i64 0,.slice none 0 0,.slice none 0 0].toArray 46))) (p10.out.ext (Ext.alloc wv (.cells [.int .i64 0,.slice none 0 0,.int .i64 0,.slice none 0 0,.slice none 0 0].toArray 46))) (p21.out.ext (Ext.alloc wv (.cells [.int .i64 0,.slice none 0 0,.int .i64 0,.slice none 0 0,.slice none 0 0].toArray 46))) (p22.out.ext (Ext.alloc wv (.cells [.int .i64 0,.slice none 0 0,.int .i64 0,.slice none 0 0,.slice none 0 0].toArray 46))) (Rt.new wv [.int .i64 0,.slice none 0 0,.int .i64 0,.slice none 0 0,.slice none 0 0] 46) (Below.size XE)) (by kernel_rfl) (by kernel_rfl) (by kernel_rfl)
      have L1_23:∀ (wv:World) (v10:Value) (B23:Nat),Hid (Ext w4 wv)→Hid (RnZ cl2 wv v10)→Hid (Rt wv B23 5 46)→Hid (w4.heap.size≤B23)→wpAnyH Tryz.prog .any O Q9 SS 3 #[true,true,true,true,true,true,true,true,true,true,true,true,true,true,true,true,true,true,true,true,true,false,false,true,false] ((AA.put (some 28) v10).put (some 5) (.pointer (some ⟨B23,0,none⟩))) wv:=by
       intro wv v10 B23 hX p10 r23 s23
       have hO1:=hO.out
       have hQ1:=hQ.out
       have hA1:=hA.out
       subst hO1
       subst hQ1
       subst hA1
       have XE:=hX.out
       try simp only [jP,jA,jB,jC,jD,jE,jF]
       refine rdH 21 (by kernel_rfl) rfl (fun K hK=>?_)
       go_simp
       go_at_call 23
       refine (HP.out _ XE).mono ?_
       rintro e wn ⟨vn,rfl,bn,on⟩
       go_wp2_with fail
       refine hK.out _ _ (KP.out _ (Ext.trans XE bn)) (fun _=>?_)
       clear hK K
       try simp only [jP,jA,jB,jC,jD,jE,jF]
       exact wpAnyH_at (L2_23 wn v10 vn B23 (Ext.trans XE bn) (p10.out.ext bn) (on) (r23.out.ext bn) s23) (by kernel_rfl) (by kernel_rfl) (by kernel_rfl)
      have L2_:∀ (wv:World) (v10 v21:Value),Hid (Ext w4 wv)→Hid (RnZ cl2 wv v10)→Hid (RnZ pr2 wv v21)→wpAnyH Tryz.prog .any O Q9 SS 3 #[true,true,true,true,true,true,true,true,true,true,true,true,true,true,true,true,true,true,true,true,true,true,false,false,false] ((AA.put (some 28) v10).put (some 39) v21) wv:=by
       intro wv v10 v21 hX p10 p21
       have hO1:=hO.out
       have hQ1:=hQ.out
       have hA1:=hA.out
       subst hO1
       subst hQ1
       subst hA1
       have XE:=hX.out
       have hHeld:=KP.out _ XE
       have hS1:=hSS.out
       subst hS1
       try simp only [jP,jA,jB,jC,jD,jE,jF]
       obtain ⟨a5,k5,rfl,o5⟩:=p10.out.op
       obtain ⟨a6,k6,rfl,o6⟩:=p21.out.op
       refine tkH 22 hHeld ?_
       simp only [jP,jA,jB,jC,jD,jE,jF]
       exact wpAnyH_at (L3_ wv _ _ _ hX.out p10.out p21.out (⟨_,_,_,_,rfl,o5,o6⟩)) (by kernel_rfl) (by kernel_rfl) (by kernel_rfl)
      have L0_23:∀ (wv:World) (B23:Nat),Hid (Ext w4 wv)→Hid (Rt wv B23 5 46)→Hid (w4.heap.size≤B23)→wpAnyH Tryz.prog .any O Q9 SS 4 #[true,true,true,true,true,true,true,true,true,true,false,true,true,true,true,true,true,true,true,true,true,false,false,true,false] (AA.put (some 5) (.pointer (some ⟨B23,0,none⟩))) wv:=by
       intro wv B23 hX r23 s23
       have hO1:=hO.out
       have hQ1:=hQ.out
       have hA1:=hA.out
       subst hO1
       subst hQ1
       subst hA1
       have XE:=hX.out
       try simp only [jP,jA,jB,jC,jD,jE,jF]
       refine rdH 10 (by kernel_rfl) rfl (fun K hK=>?_)
       go_simp
       go_at_call 23
       refine (HC.out _ XE).mono ?_
       rintro e wn ⟨vn,rfl,bn,on⟩
       go_wp2_with fail
       refine hK.out _ _ (KP.out _ (Ext.trans XE bn)) (fun _=>?_)
       clear hK K
       try simp only [jP,jA,jB,jC,jD,jE,jF]
       exact wpAnyH_at (L1_23 wn vn B23 (Ext.trans XE bn) (on) (r23.out.ext bn) s23) (by kernel_rfl) (by kernel_rfl) (by kernel_rfl)
      have L1_:∀ (wv:World) (v10:Value),Hid (Ext w4 wv)→Hid (RnZ cl2 wv v10)→wpAnyH Tryz.prog .any O Q9 SS 4 #[true,true,true,true,true,true,true,true,true,true,true,true,true,true,true,true,true,true,true,true,true,false,false,false,false] (AA.put (some 28) v10) wv:=by
       intro wv v10 hX p10
       have hO1:=hO.out
       have hQ1:=hQ.out
       have hA1:=hA.out
       subst hO1
       subst hQ1
       subst hA1
       have XE:=hX.out
       try simp only [jP,jA,jB,jC,jD,jE,jF]
       refine wpAnyH_ready (rs:=[21,23]) (by kernel_rfl) (by simp) ?_
       refine AllReadyH.cons (o:=_) rfl (fun K hK=>?_) (AllReadyH.cons (o:=_) rfl (fun K hK=>?_) AllReadyH.nil)
       ·skip
        go_simp
        go_at_call 23
        refine (HP.out _ XE).mono ?_
        rintro e wn ⟨vn,rfl,bn,on⟩
        go_wp2_with fail
        refine hK.out _ _ (KP.out _ (Ext.trans XE bn)) (fun _=>?_)
        clear hK K
        try simp only [jP,jA,jB,jC,jD,jE,jF]
        exact wpAnyH_at (L2_ wn v10 vn (Ext.trans XE bn) (p10.out.ext bn) (on)) (by kernel_rfl) (by kernel_rfl) (by kernel_rfl)
       ·skip
        go_simp
        refine hK.out _ _ (KP.out _ (Ext.trans XE (Ext.alloc _ _))) (fun _=>?_)
        clear hK K
        try simp only [jP,jA,jB,jC,jD,jE,jF]
        exact wpAnyH_at (L1_23 _ v10 wv.heap.size (Ext.trans XE (Ext.alloc wv (.cells [.int .i64 0,.slice none 0 0,.int .i64 0,.slice none 0 0,.slice none 0 0].toArray 46))) (p10.out.ext (Ext.alloc wv (.cells [.int .i64 0,.slice none 0 0,.int .i64 0,.slice none 0 0,.slice none 0 0].toArray 46))) (Rt.new wv [.int .i64 0,.slice none 0 0,.int .i64 0,.slice none 0 0,.slice none 0 0] 46) (Below.size XE)) (by kernel_rfl) (by kernel_rfl) (by kernel_rfl)
      have L0_:∀ (wv:World),Hid (Ext w4 wv)→wpAnyH Tryz.prog .any O Q9 SS 5 #[true,true,true,true,true,true,true,true,true,true,false,true,true,true,true,true,true,true,true,true,true,false,false,false,false] AA wv:=by
       intro wv hX
       have hO1:=hO.out
       have hQ1:=hQ.out
       have hA1:=hA.out
       subst hO1
       subst hQ1
       subst hA1
       have XE:=hX.out
       try simp only [jP,jA,jB,jC,jD,jE,jF]
       refine wpAnyH_ready (rs:=[10,23]) (by kernel_rfl) (by simp) ?_
       refine AllReadyH.cons (o:=_) rfl (fun K hK=>?_) (AllReadyH.cons (o:=_) rfl (fun K hK=>?_) AllReadyH.nil)
       ·skip
        go_simp
        go_at_call 23
        refine (HC.out _ XE).mono ?_
        rintro e wn ⟨vn,rfl,bn,on⟩
        go_wp2_with fail
        refine hK.out _ _ (KP.out _ (Ext.trans XE bn)) (fun _=>?_)
        clear hK K
        try simp only [jP,jA,jB,jC,jD,jE,jF]
        exact wpAnyH_at (L1_ wn vn (Ext.trans XE bn) (on)) (by kernel_rfl) (by kernel_rfl) (by kernel_rfl)
       ·skip
        go_simp
        refine hK.out _ _ (KP.out _ (Ext.trans XE (Ext.alloc _ _))) (fun _=>?_)
        clear hK K
        try simp only [jP,jA,jB,jC,jD,jE,jF]
        exact wpAnyH_at (L0_23 _ wv.heap.size (Ext.trans XE (Ext.alloc wv (.cells [.int .i64 0,.slice none 0 0,.int .i64 0,.slice none 0 0,.slice none 0 0].toArray 46))) (Rt.new wv [.int .i64 0,.slice none 0 0,.int .i64 0,.slice none 0 0,.slice none 0 0] 46) (Below.size XE)) (by kernel_rfl) (by kernel_rfl) (by kernel_rfl)
      have hO1:=hO.out
      have hQ1:=hQ.out
      have hA1:=hA.out
      subst hO1
      subst hQ1
      subst hA1
      have hS1:=hSS.out
      subst hS1
      exact wpAnyH_at (L0_ w4.drew (drew_ext w4)) (by kernel_rfl) (by kernel_rfl) (by kernel_rfl)
    case rest=>
     as_aux_lemma=>
      obtain ⟨X,ac,kc,ap,kp,rfl,hXX,hX5,hC5,hR5,hCl5,hPr5⟩:=hcut
      obtain ⟨w5,hw5⟩:∃ w0:World,w0=wc:=⟨_,rfl⟩
      subst hw5
      have HXX:=Lib.hid hXX
      have HX5:=Lib.hid hX5
      clear hXX hX5 SZ4 HC HP hd hd8
      go_wp2_with fail
      go_loopw [6] (fun t wr=>∃ (j:Nat) (T:List Rat) (at':Option Addr) (kt:Nat),t=.int .i64 j∧j≤ts.length∧j≤40∧Hid (Ext w4 wr)∧Hid (Bx wr X [.int .i64 ru,.slice ac cl2.length kc,.int .i64 ix,.slice ap pr2.length kp,.slice at' T.length kt])∧Hid (Rt wr X 5 46)∧Hid (RnZ cl2 wr (.slice ac cl2.length kc))∧Hid (RnZ pr2 wr (.slice ap pr2.length kp))∧Hid (OwnRow 3 (OwnQp 119) 59 w4.heap.size wr (.slice at' T.length kt) T)∧Hid (T.length≤j)∧Hid (∀ q∈T,Sz 8 q)) (fun t _=>40 - (intOf t).toNat)
      case atStart=>exact ⟨0,[],none,0,rfl,Nat.zero_le _,Nat.zero_le _,HX5,hC5,hR5,hCl5,hPr5,Lib.hid (OwnRow.nil _ _ _),Lib.hid (Nat.le_refl _),Lib.hid fun q h=>by cases h⟩
      case round=>
       clear hC5 hR5 hCl5 hPr5 HX5
       obtain ⟨j,T,at',kt,rfl,hj,hj4,hx6,hC6,hRt6,hCl6,hPr6,hT6,hTn,hTs⟩:=hrel
       obtain ⟨w6,hw6⟩:∃ w0:World,w0=wr:=⟨_,rfl⟩
       subst hw6
       have CB6:=Lib.hid (CB.out.ext hx6.out)
       obtain ⟨u0,u1,u2,u3,u4⟩:=CB6.out.c5
       by_cases hjl:j < ts.length
       ·by_cases h40:j < 40
        ·have hd1:decide ((j:Int) < (ts.length:Int))=true:=decide_eq_true (by omega)
         have hd2:decide ((j:Int) < 40)=true:=decide_eq_true (by omega)
         have HK1:IntKind.i64.wrap ((j:Int)+1)=((j+1:Nat):Int):=by rw [IntKind.wrap_i64];omega
         have HK2:(0:Int)≤(j:Int)∧(j:Int) < (ts.length:Int):=⟨by omega,by omega⟩
         obtain ⟨bW,oW,cs,hxe,hcl3,hTT,hcc⟩:=HRT.out.at (by decide) j hjl
         obtain ⟨y,z,rfl⟩:=cells_N hTT
         subst hxe
         have CN4:=Lib.hid (Bo.of hcc)
         have CN:=Lib.hid (CN4.out.ext hx6.out)
         have HOF:Hid (∀ w',Ext w6 w'→Calls Tryz.prog 22 #[.agg #[.bool ts[j].1,y,z]] w' (Gives w' fun v' w'=>OwnQ 119 0 w' v' (qN ts[j]))):=fun w' x=>(of8_p (hTT.ext (Ext.trans hx6.out x)) (HNN.out _ (List.getElem_mem hjl))).mono fun _ _ ⟨v,e,b,o⟩=>⟨v,e,b,o.mono (Nat.zero_le _)⟩
         have HQS:=Lib.hid (qN_sz hTT)
         clear hcc hTT hcl3
         generalize ts[j].1=sg at*
         generalize qN ts[j]=q at*
         obtain ⟨T2,hT2⟩:∃ T2,T ++ [q]=T2:=⟨_,rfl⟩
         have HT2:=Lib.hid hT2
         have HT2L:Hid (T2.length≤j+1∧∀ q∈T2,Sz 8 q):=by
          rw [← hT2]
          exact ⟨by have:=hTn.out;simp;omega,fun q' h=>(List.mem_append.1 h).elim (hTs.out q') fun h=>by rw [List.mem_singleton.1 h];exact HQS.out⟩
         clear hT2
         have HTL:Hid (T.length≤40):=by have:=hTn.out;exact Lib.hid (by omega)
         go_upto_region 9 with (fail)
         clear u0 u1 u2 u3 u4 hd1 hd2
         have neS:=hT6.out.ne_rt hRt6.out (by decide)
         have b7:=drew_ext w6
         have XE:=b7
         refine wp_region_noPanic ?_
         refine wp_region_cut_drew (st:=14) (S:=fun w'=>(w'.cell? ⟨X,0,none⟩=some (.int .i64 ru)∧w'.cell? ⟨X,1,none⟩=some (.slice ac cl2.length kc)∧w'.cell? ⟨X,2,none⟩=some (.int .i64 ix)∧w'.cell? ⟨X,3,none⟩=some (.slice ap pr2.length kp)∧w'.cell? ⟨X,4,none⟩=some (.slice at' T.length kt))∧(w'.cell? ⟨bL,oL+i*5,none⟩=some (.int .i64 ru)∧w'.cell? ⟨bL,oL+i*5+1,none⟩=some (.slice ax ncl mx')∧w'.cell? ⟨bL,oL+i*5+2,none⟩=some (.int .i64 ix)∧w'.cell? ⟨bL,oL+i*5+3,none⟩=some (.slice ay npr my)∧w'.cell? ⟨bL,oL+i*5+4,none⟩=some (.slice (some ⟨bW,oW,none⟩) ts.length mz))∧(w'.cell? ⟨bW,oW+j*3,none⟩=some (.bool sg)∧w'.cell? ⟨bW,oW+j*3+1,none⟩=some (y)∧w'.cell? ⟨bW,oW+j*3+2,none⟩=some (z))) (by kernel_rfl) (⟨(hC6.out.ext XE).c5,(CB6.out.ext XE).c5,(CN.out.ext XE).c3⟩) (fun hHeld=>?_)
         refine tkT 0 [14] hHeld ?_
         simp only [jP,jA,jB,jC,jD,jE,jF]
         refine tkT 1 [14] hHeld ?_
         simp only [jP,jA,jB,jC,jD,jE,jF]
         refine tkT 2 [14] hHeld ?_
         simp only [jP,jA,jB,jC,jD,jE,jF]
         refine tkT 3 [14] hHeld ?_
         simp only [jP,jA,jB,jC,jD,jE,jF]
         refine tkT 4 [14] hHeld ?_
         simp only [jP,jA,jB,jC,jD,jE,jF]
         refine tkT 5 [14] hHeld ?_
         simp only [jP,jA,jB,jC,jD,jE,jF]
         refine tkT 6 [14] hHeld ?_
         simp only [jP,jA,jB,jC,jD,jE,jF]
         refine tkT 7 [14] hHeld ?_
         simp only [jP,jA,jB,jC,jD,jE,jF]
         refine tkT 8 [14] hHeld ?_
         simp only [jP,jA,jB,jC,jD,jE,jF]
         refine tkT 9 [14] hHeld ?_
         simp only [jP,jA,jB,jC,jD,jE,jF]
         refine wpAnyT_ready (rs:=[10]) (by kernel_rfl) (by simp) ?_
         refine AllReadyT.cons (o:=_) rfl (by rfl) (fun K hK=>?_) AllReadyT.nil
         go_simp
         go_at_call 22;refine (HOF.out _ XE).mono ?_;rintro e w8 ⟨v8,rfl,b8,o8⟩;have O8:=Lib.hid o8;clear o8;(first | have XE:=Ext.trans XE b8 | have XE:=Ext.trans (Ext.trans XE (Ext.alloc _ _)) b8);obtain ⟨s1,a1,l1,c1,a1',l1',c1',rfl,O1⟩:=O8.out.op
         go_wp2_with fail
         refine hK.out _ _ (⟨(hC6.out.ext XE).c5,(CB6.out.ext XE).c5,(CN.out.ext XE).c3⟩) (fun hHeld=>?_)
         clear hK K
         try simp only [jP,jA,jB,jC,jD,jE,jF]
         refine wpAnyT_ready (rs:=[11]) (by kernel_rfl) (by simp) ?_
         refine AllReadyT.cons (o:=_) rfl (by rfl) (fun K hK=>?_) AllReadyT.nil
         refine if_wantedL rfl ?_
         refine build1K etRats (by rfl) (T:=OwnQp 119) OwnQ.ext (by rfl) [.bool s1,.slice a1 l1 c1,.slice a1' l1' c1'] (fill_r1 ..) rfl (by decide) (y:=q) O1.out ?_
         intro g20 w20 x20 _ l20
         have XE:=Ext.trans XE x20
         have L20:=Lib.hid l20.rd
         clear l20
         refine hK.out _ _ ⟨(hC6.out.ext XE).c5,(CB6.out.ext XE).c5,(CN.out.ext XE).c3⟩ (fun hHeld=>?_)
         clear hK K
         try simp only [jP,jA,jB,jC,jD,jE,jF]
         refine wpAnyT_ready (rs:=[12]) (by kernel_rfl) (by simp) ?_
         refine AllReadyT.cons (o:=_) rfl (by rfl) (fun K hK=>?_) AllReadyT.nil
         refine if_wantedL rfl ?_
         refine append_rowG etRats (kdQ (e:=119) (by decide)) _ _ (by rfl) w4.heap.size (by rfl) (hT6.out.ext OwnQ.ext XE) (by rfl) L20.out (by have:=HTL.out;omega) (by have:=HTL.out;unfold maxLen;omega) (Nat.le_trans (Below.size hx6.out) (Below.size XE)) ?_
         intro v9 w9 o9 b9 g9 _
         have RO9:=Lib.hid ((hRt6.out.ext XE).grow g9 neS)
         have DO9:=Lib.hid ((hC6.out.ext XE).grow g9 neS)
         obtain ⟨nn,xs,hown⟩:=(hT6.out.ext OwnQ.ext XE).own
         have HCl9:Hid (OwnRow 1 IntT 3 0 w9 (.slice ac cl2.length kc) cl2):=(OwnRow.grown (hCl6.out.ext XE) (fun _ _ h=>h) hown (by decide) g9)
         have HPr9:Hid (OwnRow 1 IntT 3 0 w9 (.slice ap pr2.length kp) pr2):=(OwnRow.grown (hPr6.out.ext XE) (fun _ _ h=>h) hown (by decide) g9)
         have XW:=Lib.hid (Below.trans hx6.out (Below.trans (Below.mono XE (Below.size hx6.out)) b9))
         have XWF:=Lib.hid (Below.trans (Below.mono XE (Below.size hx6.out)) b9)
         have O9:Hid (OwnRow 3 (OwnQp 119) 59 w4.heap.size w9 v9 T2):=(by rw [← HT2.out];exact o9)
         obtain ⟨a11,k11,he9,-,-⟩:=O9.out.rd.shape
         subst he9
         refine hK.out _ _ ⟨DO9.out.c5,(CB.out.ext XW.out).c5,(CN4.out.ext XW.out).c3⟩ (fun hHeld=>?_)
         clear hK K o9 hown
         try simp only [jP,jA,jB,jC,jD,jE,jF]
         obtain ⟨_,_,_,_,_,n0,n1,n2,n3,n4,i0,i1,i2,i3,i4⟩:=RO9.out.c5
         refine tkT 13 [14] hHeld ?_
         simp only [jP,jA,jB,jC,jD,jE,jF]
         refine wpAnyT_ready (rs:=[14]) (by kernel_rfl) (by simp) ?_
         refine AllReadyT.cut (o:=_) rfl (fun K hK=>?_)
         go_simp
         refine hK.out _ _ ?_
         clear hK K
         try simp only [jP,jA,jB,jC,jD,jE,jF]
         refine wpAny_done (by kernel_rfl) ?_ _
         refine NoPanic.normal ?_
         go_wp2_with fail
         go_roundw
         case rel=>exact ⟨j+1,T2,a11,k11,by go_num,by omega,by omega,putL_below HXX.out [_] 4 XW.out,DO9.out.setAt RO9.out 4 (by decide) _,RO9.out.setAt 4 _,OwnRow.putT HCl9.out RO9.out (by decide) 4 [_] (fun _ _ h=>h),OwnRow.putT HPr9.out RO9.out (by decide) 4 [_] (fun _ _ h=>h),O9.out.putT RO9.out (by decide) 4 [_] (fun _ _ h=>OwnQ.putT h RO9.out (by decide) 4 [_]),HT2L.out.1,HT2L.out.2⟩
         case measure=>simp [intOf] <;> omega
        ·obtain rfl:j=40:=by omega
         have hd1:decide ((40:Int) < (ts.length:Int))=true:=decide_eq_true (by omega)
         have HSK:Hid (SqOk ((ru,cl2),ix,pr2,T)):=⟨HCK.out.1,HCK.out.2.1,HCK.out.2.2.1,HCK.out.2.2.2,by have:=hTn.out;show T.length≤_;omega,hTs.out⟩
         have HEL:Hid (QnS w6 (.agg #[.int .i64 ru,.slice ac cl2.length kc,.int .i64 ix,.slice ap pr2.length kp,.slice at' T.length kt]) ((ru,cl2),ix,pr2,T)):=⟨_,_,_,_,_,_,rfl,TyRow.of hCl6.out,TyRow.of hPr6.out,TyRow.of hT6.out⟩
         have HXo:=Lib.hid (Ext.trans hX.out hx6.out)
         have HLL:Hid (L.length≤60):=by have:=hLn.out;exact Lib.hid (by omega)
         obtain ⟨x0,x1,x2,x3,x4⟩:=hC6.out.c5
         go_upto_region 10 with (fail)
         clear u0 u1 u2 u3 u4
         go_wp2_with (refine build1W etSt (by rfl) (by rfl) (T:=QnS) qns_ext (by rfl) [.int .i64 ru,.slice ac cl2.length kc,.int .i64 ix,.slice ap pr2.length kp,.slice at' T.length kt] (fill_t1 ..) rfl (by decide) HEL.out ?_;intro g8 w8 x8 _ l8;refine append_rowGL etSt (kdSq (by decide) (by decide) (kdQ (by decide))) (by rfl) _ _ (by rfl) w.heap.size (by rfl) (hO.out.ext qns_ext (Ext.trans hx6.out x8)) (by rfl) l8.rd (by have:=HLL.out;omega) (by unfold maxLen;have:=HLL.out;omega) (Below.size (Ext.trans HXo.out x8)) ?_;intro v9 w9 o9 b9 g9 _;have O9:=Lib.hid o9;have XW:=Lib.hid (Below.trans (Ext.trans HXo.out x8) b9);clear o9 b9 g9 l8 x8)
         go_roundw
         case rel=>exact ⟨i+1,L ++ [((ru,cl2),ix,pr2,T)],by go_num,by omega,by omega,XW.out,O9.out,Lib.hid (by have:=hLn.out;simp;omega),Lib.hid fun s h=>(List.mem_append.1 h).elim (hLk.out s) fun h=>by rw [List.mem_singleton.1 h];exact HSK.out⟩
         case measure=>simp [intOf] <;> omega
       ·obtain rfl:j=ts.length:=by omega
        have hd1:decide ((ts.length:Int) < (ts.length:Int))=false:=decide_eq_false (by omega)
        have HSK:Hid (SqOk ((ru,cl2),ix,pr2,T)):=⟨HCK.out.1,HCK.out.2.1,HCK.out.2.2.1,HCK.out.2.2.2,by have:=hTn.out;show T.length≤_;omega,hTs.out⟩
        have HEL:Hid (QnS w6 (.agg #[.int .i64 ru,.slice ac cl2.length kc,.int .i64 ix,.slice ap pr2.length kp,.slice at' T.length kt]) ((ru,cl2),ix,pr2,T)):=⟨_,_,_,_,_,_,rfl,TyRow.of hCl6.out,TyRow.of hPr6.out,TyRow.of hT6.out⟩
        have HXo:=Lib.hid (Ext.trans hX.out hx6.out)
        have HLL:Hid (L.length≤60):=by have:=hLn.out;exact Lib.hid (by omega)
        obtain ⟨x0,x1,x2,x3,x4⟩:=hC6.out.c5
        go_upto_region 10 with (fail)
        clear u0 u1 u2 u3 u4
        go_wp2_with (refine build1W etSt (by rfl) (by rfl) (T:=QnS) qns_ext (by rfl) [.int .i64 ru,.slice ac cl2.length kc,.int .i64 ix,.slice ap pr2.length kp,.slice at' T.length kt] (fill_t1 ..) rfl (by decide) HEL.out ?_;intro g8 w8 x8 _ l8;refine append_rowGL etSt (kdSq (by decide) (by decide) (kdQ (by decide))) (by rfl) _ _ (by rfl) w.heap.size (by rfl) (hO.out.ext qns_ext (Ext.trans hx6.out x8)) (by rfl) l8.rd (by have:=HLL.out;omega) (by unfold maxLen;have:=HLL.out;omega) (Below.size (Ext.trans HXo.out x8)) ?_;intro v9 w9 o9 b9 g9 _;have O9:=Lib.hid o9;have XW:=Lib.hid (Below.trans (Ext.trans HXo.out x8) b9);clear o9 b9 g9 l8 x8)
        go_roundw
        case rel=>exact ⟨i+1,L ++ [((ru,cl2),ix,pr2,T)],by go_num,by omega,by omega,XW.out,O9.out,Lib.hid (by have:=hLn.out;simp;omega),Lib.hid fun s h=>(List.mem_append.1 h).elim (hLk.out s) fun h=>by rw [List.mem_singleton.1 h];exact HSK.out⟩
        case measure=>simp [intOf] <;> omega
   ·obtain rfl:i=60:=by omega
    have hd:decide ((60:Int) < (l.length:Int))=true:=decide_eq_true (by omega)
    go_wp2_with fail
    exact hR.out _ _ (Gives.mk hX.out ⟨L,hO.out,hLn.out,hLk.out⟩)
  ·obtain rfl:i=l.length:=by omega
   have hd:decide ((l.length:Int) < (l.length:Int))=false:=decide_eq_false (by omega)
   go_wp2_with fail
   exact hR.out _ _ (Gives.mk hX.out ⟨L,hO.out,Nat.le_trans hLn.out hi6,hLk.out⟩)
end Go.Proofs.YtdooldpgnjmpfaaGreatDoor
