/- A group of texts: PParts, PCExt -/
import Derived.Test.YtmlhccajicmpfaaGreatSq
import Derived.Test.YtmlhccajicmpfaaGreatPartCC
import Derived.Test.YtmlhccajicmpfaaGreatPOf15
set_option maxHeartbeats 40000000
set_option maxRecDepth 100000
set_option linter.unusedSimpArgs false
namespace Go.Att
open Go.RowKit

def BlB (w:World) (g n:Nat) (t:TypeId):Prop:=∃ cs:Array Value,cs.size=n∧w.heap[g]?=some (.cells cs t (0,0))∧∀ i,i < n→∃ x:Bool,cs[i]?=some (.bool x)
section
variable {w w':World} {g n:Nat} {t:TypeId}
theorem BlB.of {B:Nat} {xs:List Bool} (h:OwnB t B w (.slice (some ⟨g,0,none⟩) n n) xs) (hn:xs.length=n):BlB w g n t:=by
 obtain ⟨h1,h2⟩:=h
 rw [hn] at h2
 rcases h2 with ⟨h2,_⟩ | ⟨g',cap,cur,hv,_,hg,_,_,hcs,ht⟩
 ·cases h2
 simp only [Value.slice.injEq,Option.some.injEq,Addr.mk.injEq,and_true] at hv
 obtain ⟨rfl,-,rfl⟩:=hv
 rw [Nat.mul_one] at hcs ht
 refine ⟨cur,hcs,hg,fun i hi=>?_⟩
 have h5:cur.toList=bools xs:=by rw [← ht,List.take_of_length_le (by simp [hcs])]
 have h6:(bools xs)[i]?=cur[i]?:=by rw [← h5];simp
 rw [← h6]
 have hix:i < xs.length:=by omega
 exact ⟨xs[i],by simp [bools,hix]⟩
theorem BlB.lt (h:BlB w g n t):g < w.heap.size:=by
 obtain ⟨cs,_,h,_⟩:=h
 exact (Array.getElem?_eq_some_iff.1 h).1
theorem BlB.keep (h:BlB w g n t) (hk:w'.heap[g]?=w.heap[g]?):BlB w' g n t:=by
 obtain ⟨cs,h1,h2,h3⟩:=h
 exact ⟨cs,h1,hk.trans h2,h3⟩
theorem BlB.ext (h:BlB w g n t) (x:Ext w w'):BlB w' g n t:=h.keep (x.block g h.lt)
theorem BlB.at (h:BlB w g n t) (i:Nat) (hi:i < n):∃ x:Bool,w.cell? ⟨g,i,none⟩=some (.bool x)∧w.frozen? ⟨g,i,none⟩=false:=by
 obtain ⟨cs,_,h2,h3⟩:=h
 obtain ⟨x,hx⟩:=h3 i hi
 exact ⟨x,by rw [cell_of_row w g i cs t (0,0) h2];exact hx,frozen_of_row w g i cs t h2⟩
theorem BlB.set (h:BlB w g n t) (i:Nat) (x:Bool):BlB (w.setCell ⟨g,i,none⟩ (.bool x)) g n t:=by
 obtain ⟨cs,h1,h2,h3⟩:=h
 refine ⟨_,by simp [h1],heap_setCell_same w g i cs t (.bool x) h2,fun j hj=>?_⟩
 by_cases hij:i=j
 ·subst hij
  exact ⟨x,by simp [h1,hj]⟩
 obtain ⟨y,hy⟩:=h3 j hj
 exact ⟨y,by simp [hij,hy]⟩
theorem NdT.row {k:Nat} {a:Int} {L:List Nd} {x:Option Addr} {m c:Nat} (h:RdRow 3 NdT w (.slice x m c) L) (hg:∀ y∈L,GdN a k y) (i:Nat) (hi:i < L.length):
  ∃ (b o:Nat) (y0 y1 y2:Int),x=some ⟨b,o,none⟩∧Bo w b (o+i*3) [.int .i64 y0,.int .i64 y1,.int .i64 y2]∧GdN a k (y0,y1,y2):=by
 obtain ⟨b,o,cs,he,hcl,hT,hc⟩:=h.at dC i hi
 rw [NdT.cells hT] at hc
 exact ⟨b,o,_,_,_,he,Bo.of hc,hg _ (List.getElem_mem hi)⟩
end
end Go.Att
namespace Go.Proofs.YtmlhccajicmpfaaGreat
open Go.RowKit Go.Att

theorem cparts_any {w:World} {v:Value} {L:List Nd} {n:Nat} {at':Int} {root:Nat} (hv:RdRow 3 NdT w v L) (hL:L.length=n) (hg:∀ x∈L,GdN at' n x) (hn:n≤20000) (hr:root < n):
  Calls Tryz.prog 76 #[v,.int .i64 root] w (Gives w fun v' w'=>∃ l:List Int,OwnRow 1 IntT 3 w.heap.size w' v' l∧l.length≤n∧∀ z∈l,0≤z∧z < n):=by
 refine via fun R hR=>?_
 obtain ⟨a,c,rfl,-,-⟩:=hv.shape
 have HV:=qH hv
 have HG:=qH hg
 have HL:=qH hL
 have HN:Hid (n≤20000∧root < n):=⟨hn,hr⟩
 rw [hL] at HV ⊢
 clear hv hL hg hr
 go_enter Tryz.func76,Tryz.ntmps76
 go_wp2_with (at_make;refine make_bools etB rfl _ _ rfl _ _ n rfl rfl oM (by unfold maxLen;omega) ?_;intro w1 o1 b1;have O1:=qH (BlB.of o1 (len_nays n));clear o1;obtain ⟨_,q0,q1⟩:=O1.out.at root HN.out.2;have hI:(0:Int)≤(root:Int)∧(root:Int) < (n:Int):=⟨by omega,by have:=HN.out;omega⟩)
 clear q0 q1 hI
 go_loopw [6] (fun t wr=>∃ z:Int,t=.int .i64 z∧Hid (-1≤z∧z < n)∧Hid (Ext w wr)∧Hid (BlB wr w.heap.size n 4)) (fun t _=>(intOf t+1).toNat)
 case atStart=>exact ⟨root,rfl,⟨by omega,by have:=HN.out;omega⟩,putL_below (Nat.le_refl _) [_] root b1,O1.out.set root true⟩
 case round=>
  clear O1 b1
  obtain ⟨z,rfl,hz,hX,hB⟩:=hrel
  obtain ⟨wo,hwo⟩:∃ w0:World,w0=wr:=⟨_,rfl⟩
  subst hwo
  by_cases h0:0≤z
  ·obtain ⟨i,rfl⟩:∃ i:Nat,z=i:=⟨z.toNat,by omega⟩
   have hin:i < n:=by have:=hz.out;omega
   have hd:=dT ((i:Int) ≥ 0)
   have hd':decide ((0:Int)≤(i:Int))=true:=decide_eq_true oM
   have HJ2:(0:Int)≤(i:Int)∧(i:Int) < (n:Int):=⟨by omega,by omega⟩
   have HJ1:IntKind.i64.wrap ((i:Int) - 1)=(i:Int) - 1:=by rw [IntKind.wrap_i64];omega
   clear h0
   obtain ⟨bL,oL,y0,y1,y2,hae,hbo,hg⟩:=NdT.row (HV.out.ext NdT.ext hX.out) HG.out i (by rw [HL.out];exact hin)
   subst hae
   have HGD:=qH hg
   obtain ⟨p,hp⟩:∃ p:Nat,y1=p:=⟨y1.toNat,by have:=hg.2.2.1;dsimp only at this;omega⟩
   obtain ⟨q,hq⟩:∃ q:Nat,y2=q:=⟨y2.toNat,by have:=hg.2.2.2.1;dsimp only at this;omega⟩
   subst hp hq
   obtain ⟨u0,u1,u2⟩:=hbo.c3
   obtain ⟨w4,hw4,b4,c4,-,-⟩:=bx1 wo [.int .i64 y0,.int .i64 p,.int .i64 q] 193
   have HW:=qH hw4
   have C4:=qH c4
   have X4:=qH (eT hX.out b4)
   have B4:=qH (hB.out.ext b4)
   have SZO:=qH hB.out.lt
   clear hw4 c4 hbo hg
   go_upto_region 7 with (fail)
   rw [← HW.out]
   clear HW u0 u1 u2
   obtain ⟨u0,u1,u2⟩:=C4.out.c3
   obtain ⟨x,e0,f0⟩:=B4.out.at i hin
   cases x with
   | false=>
    go_wp2_with fail
    go_roundw
    case rel=>exact ⟨(i:Int) - 1,by go_num,⟨by omega,by omega⟩,X4.out,B4.out⟩
    case measure=>simp [intOf]
   | true=>
    by_cases k4:4≤y0
    ·have d4:decide (y0 ≥ 4)=true:=decide_eq_true k4
     have d4':decide (4≤y0)=true:=decide_eq_true k4
     obtain ⟨hp,hq⟩:p < n∧q < n:=by have:=HGD.out.2.2.2.2.2.2.2 (by dsimp only;omega);dsimp only at this;omega
     have HP2:(0:Int)≤(p:Int)∧(p:Int) < (n:Int):=⟨by omega,by omega⟩
     have HQ2:(0:Int)≤(q:Int)∧(q:Int) < (n:Int):=⟨by omega,by omega⟩
     obtain ⟨_,g0,g1⟩:=B4.out.at p hp
     clear k4 HGD
     go_upto_region 9 with (fail)
     obtain ⟨w5,hw5⟩:∃ W,W=Att.putL w4 w.heap.size p [.bool true]:=⟨_,rfl⟩
     rw [show World.setCell w4 ⟨w.heap.size,p,none⟩ (.bool true)=w5 from hw5.symm]
     have B5:Hid (BlB w5 w.heap.size n 4):=by rw [hw5];exact qH (B4.out.set p true)
     have X5:Hid (Ext w w5):=by rw [hw5];exact qH (putL_below (Nat.le_refl _) [_] p X4.out)
     have C5:Hid (Bx w5 wo.heap.size [.int .i64 y0,.int .i64 p,.int .i64 q]):=by rw [hw5];exact qH (C4.out.keepC (putL_block w.heap.size (by have:=SZO.out;omega) [_] w4 p))
     clear hw5 g0 g1 e0 f0 u0 u1 u2 d4 d4' hd hd'
     obtain ⟨x2,g0,g1⟩:=B5.out.at q hq
     have CQ:Hid (Bo w5 w.heap.size q [.bool x2]):=Bo.one g0
     have HFZ:Hid (∀ w',Ext w5 w'→w'.frozen? ⟨w.heap.size,q,none⟩=false):=fun w' xx=>((B5.out.ext xx).at q hq).elim fun _ h=>h.2
     clear g0 g1
     cases x2 with
     | true=>
      have b6:=drew_ext w5
      have XE:=b6
      refine wp_region_noPanic ?_
      refine wp_region_cut_drew (st:=14) (S:=fun w'=>(w'.cell? ⟨wo.heap.size,0,none⟩=some (.int .i64 y0)∧w'.cell? ⟨wo.heap.size,1,none⟩=some (.int .i64 (p:Int))∧w'.cell? ⟨wo.heap.size,2,none⟩=some (.int .i64 (q:Int)))∧(w'.cell? ⟨w.heap.size,q,none⟩=some (.bool true))) kR (⟨(C5.out.ext XE).c3,(CQ.out.ext XE).c1⟩) (fun hHeld=>?_)
      refine tkT 0 [14] hHeld ?_
      simp only [jP,jJ]
      refine tkT 1 [14] hHeld ?_
      simp only [jP,jJ]
      refine tkT 2 [14] hHeld ?_
      simp only [jP,jJ]
      refine tkT 3 [14] hHeld ?_
      simp only [jP,jJ]
      refine tkT 4 [14] hHeld ?_
      simp only [jP,jJ]
      refine tkT 5 [14] hHeld ?_
      simp only [jP,jJ]
      refine tkT 6 [14] hHeld ?_
      simp only [jP,jJ]
      refine tkT 7 [14] hHeld ?_
      simp only [jP,jJ]
      refine tkT 8 [14] hHeld ?_
      simp only [jP,jJ]
      refine wpAnyT_take (i:=9) [14] rfl kR kR kR kR (fun _ _ _ h=>h) (Or.inr ⟨by rfl,rfl⟩) hHeld ?_
      simp only [jP,jJ]
      refine wpAnyT_take (i:=10) [14] rfl kR kR kR kR (fun _ _ _ h=>h) (Or.inr ⟨by rfl,rfl⟩) hHeld ?_
      simp only [jP,jJ]
      refine wpAnyT_take (i:=11) [14] rfl kR kR kR kR (fun _ _ _ h=>h) (Or.inr ⟨by rfl,rfl⟩) hHeld ?_
      simp only [jP,jJ]
      refine tkT 12 [14] hHeld ?_
      simp only [jP,jJ]
      refine tkT 13 [14] hHeld ?_
      simp only [jP,jJ]
      have i0:=HFZ.out _ XE
      have i1:=(CQ.out.ext XE).c1
      refine wpAnyT_ready (rs:=[14]) kR (by simp) ?_
      refine AllReadyT.cut (o:=_) rfl (fun K hK=>?_)
      go_simp
      refine hK.out _ _ ?_
      clear hK K
      try simp only [jP,jJ]
      refine wpAny_done kR ?_ _
      refine NoPanic.normal ?_
      go_wp2_with fail
      go_roundw
      case rel=>exact ⟨(i:Int) - 1,by go_num,⟨by omega,by omega⟩,putL_below (Nat.le_refl _) [_] q (eT X5.out XE),(B5.out.ext XE).set q _⟩
      case measure=>simp [intOf]
     | false=>
      have b6:=drew_ext w5
      have XE:=b6
      refine wp_region_noPanic ?_
      refine wp_region_cut_drew (st:=14) (S:=fun w'=>(w'.cell? ⟨wo.heap.size,0,none⟩=some (.int .i64 y0)∧w'.cell? ⟨wo.heap.size,1,none⟩=some (.int .i64 (p:Int))∧w'.cell? ⟨wo.heap.size,2,none⟩=some (.int .i64 (q:Int)))∧(w'.cell? ⟨w.heap.size,q,none⟩=some (.bool false))) kR (⟨(C5.out.ext XE).c3,(CQ.out.ext XE).c1⟩) (fun hHeld=>?_)
      refine tkT 0 [14] hHeld ?_
      simp only [jP,jJ]
      refine tkT 1 [14] hHeld ?_
      simp only [jP,jJ]
      refine tkT 2 [14] hHeld ?_
      simp only [jP,jJ]
      refine tkT 3 [14] hHeld ?_
      simp only [jP,jJ]
      refine tkT 4 [14] hHeld ?_
      simp only [jP,jJ]
      refine tkT 5 [14] hHeld ?_
      simp only [jP,jJ]
      refine tkT 6 [14] hHeld ?_
      simp only [jP,jJ]
      refine tkT 7 [14] hHeld ?_
      simp only [jP,jJ]
      refine tkT 8 [14] hHeld ?_
      simp only [jP,jJ]
      refine tkT 9 [14] hHeld ?_
      simp only [jP,jJ]
      refine tkT 10 [14] hHeld ?_
      simp only [jP,jJ]
      refine tkT 11 [14] hHeld ?_
      simp only [jP,jJ]
      refine tkT 12 [14] hHeld ?_
      simp only [jP,jJ]
      refine tkT 13 [14] hHeld ?_
      simp only [jP,jJ]
      have i0:=HFZ.out _ XE
      have i1:=(CQ.out.ext XE).c1
      refine wpAnyT_ready (rs:=[14]) kR (by simp) ?_
      refine AllReadyT.cut (o:=_) rfl (fun K hK=>?_)
      go_simp
      refine hK.out _ _ ?_
      clear hK K
      try simp only [jP,jJ]
      refine wpAny_done kR ?_ _
      refine NoPanic.normal ?_
      go_wp2_with fail
      go_roundw
      case rel=>exact ⟨(i:Int) - 1,by go_num,⟨by omega,by omega⟩,putL_below (Nat.le_refl _) [_] q (eT X5.out XE),(B5.out.ext XE).set q _⟩
      case measure=>simp [intOf]
    have d4:decide (y0 ≥ 4)=false:=decide_eq_false k4
    have d4':decide (4≤y0)=false:=decide_eq_false k4
    clear k4
    go_wp2_with fail
    go_roundw
    case rel=>exact ⟨(i:Int) - 1,by go_num,⟨by omega,by omega⟩,X4.out,B4.out⟩
    case measure=>simp [intOf]
  have hd:decide (z ≥ 0)=false:=decide_eq_false h0
  have hd':decide (0≤z)=false:=decide_eq_false h0
  clear h0
  go_wp2_with fail
  clear hd hd'
  go_loopw [8,55] (fun qq t wr=>∃ (j:Nat) (a':Option Addr) (c':Nat) (l:List Int),t=.int .i64 j∧qq=.slice a' l.length c'∧j≤n∧Hid (Ext w wr)∧Hid (BlB wr w.heap.size n 4)∧Hid (OwnRow 1 IntT 3 (w.heap.size+1) wr (.slice a' l.length c') l)∧Hid (l.length≤j∧∀ z∈l,0≤z∧z < n)) (fun _ t _=>n - (intOf t).toNat)
  case atStart=>exact ⟨0,none,0,[],rfl,rfl,Nat.zero_le _,hX,hB,OwnRow.nil _ _ _,Nat.zero_le _,fun z hz=>by cases hz⟩
  case round=>
   clear hX hB hz
   obtain ⟨j,a',c',l,rfl,rfl,hj,hX,hB,hO,hl⟩:=hrel
   obtain ⟨wo,hwo⟩:∃ w0:World,w0=wr:=⟨_,rfl⟩
   subst hwo
   by_cases hjl:j < n
   ·have hd:=dT ((j:Int) < (n:Int))
    have HJ2:(0:Int)≤(j:Int)∧(j:Int) < (n:Int):=⟨by omega,by omega⟩
    have HJ1:IntKind.i64.wrap ((j:Int)+1)=((j+1:Nat):Int):=by rw [IntKind.wrap_i64];omega
    obtain ⟨bL,oL,y0,y1,y2,hae,hbo,hg⟩:=NdT.row (HV.out.ext NdT.ext hX.out) HG.out j (by rw [HL.out];exact hjl)
    subst hae
    obtain ⟨u0,u1,u2⟩:=hbo.c3
    obtain ⟨w4,hw4,b4,c4,-,-⟩:=bx1 wo [.int .i64 y0,.int .i64 y1,.int .i64 y2] 193
    have HW:=qH hw4
    have C4:=qH c4
    have X4:=qH (eT hX.out b4)
    have B4:=qH (hB.out.ext b4)
    have O4:=qH (hO.out.ext IntT.ext b4)
    have SZ4:Hid (w.heap.size+1≤w4.heap.size):=B4.out.lt
    clear hw4 c4 hbo hg
    go_upto_region 14 with (fail)
    rw [← HW.out]
    clear HW u0 u1 u2
    obtain ⟨u0,u1,u2⟩:=C4.out.c3
    obtain ⟨x,e0,f0⟩:=B4.out.at j hjl
    have HLJ:Hid (l.length≤j∧j < 20000):=⟨hl.out.1,by omega⟩
    cases x with
    | false=>
     go_wp2_with fail
     go_roundw
     case rel=>exact ⟨j+1,a',c',l,by go_num,rfl,by omega,X4.out,B4.out,O4.out,by have:=HLJ.out;omega,hl.out.2⟩
     simp [intOf]<;>omega
    | true=>
     by_cases k5:5≤y0
     ·have d4:decide (y0 ≥ 5)=true:=decide_eq_true k5
      have d4':decide (5≤y0)=true:=decide_eq_true k5
      clear k5
      obtain ⟨l2,hl2⟩:∃ l2,l ++ [(j:Int)]=l2:=⟨_,rfl⟩
      have HL2:Hid (l2.length≤j+1∧∀ z∈l2,0≤z∧z < n):=by
       rw [← hl2]
       refine qH ⟨by rw [List.length_append];have:=HLJ.out;simp only [List.length_cons,List.length_nil];omega,fun z hz=>?_⟩
       rcases List.mem_append.1 hz with hz | hz
       ·exact hl.out.2 z hz
       rw [List.mem_singleton.1 hz];exact ⟨by omega,by omega⟩
      have HLE:=qH hl2
      have HNE:Hid ((Value.slice a' l.length c').ownBlock≠some w.heap.size):=fun he=>by
       have:=(OwnRow.lt O4.out _ he).1
       omega
      clear hl2
      go_wp2_with (refine build1W etLi rF rF (T:=IntT) IntT.ext rF [.int .i64 j] (fill_i1 ..) rfl dC (y:=(j:Int)) rfl ?_;intro g8 w8 x8 _ l8;refine append_rowGL etLi (kdI _) rF _ _ rF (w.heap.size+1) rF (O4.out.ext IntT.ext x8) rF l8.rd (by have:=HLJ.out;omega) (by unfold maxLen;have:=HLJ.out;omega) (Nat.le_trans SZ4.out (Below.size x8)) ?_;intro v9 w9 o9 b9 g9 _;have O9:Hid (OwnRow 1 IntT 3 (w.heap.size+1) w9 v9 l2):=(by rw [← HLE.out];exact o9);have XW:=qH (Below.trans (eT X4.out x8) (Below.mono b9 (Nat.le_succ _)));have B9:=qH ((B4.out.ext x8).keep (g9.block _ (B4.out.ext x8).lt fun e=>HNE.out e.symm));obtain ⟨a11,k11,he9,-,-⟩:=O9.out.rd.shape;subst he9)
      go_roundw
      case rel=>exact ⟨j+1,a11,k11,l2,by go_num,rfl,by omega,XW.out,B9.out,O9.out,HL2.out⟩
      simp [intOf]<;>omega
     have d4:decide (y0 ≥ 5)=false:=decide_eq_false k5
     have d4':decide (5≤y0)=false:=decide_eq_false k5
     clear k5
     go_wp2_with fail
     go_roundw
     case rel=>exact ⟨j+1,a',c',l,by go_num,rfl,by omega,X4.out,B4.out,O4.out,by have:=HLJ.out;omega,hl.out.2⟩
     simp [intOf]<;>omega
   obtain rfl:j=n:=by omega
   have hd:=dF ((j:Int) < (j:Int))
   go_wp2_with fail
   exact hR.out _ _ (Gives.mk hX.out ⟨l,hO.out.mono (Nat.le_succ _),hl.out.1,hl.out.2⟩)
end Go.Proofs.YtmlhccajicmpfaaGreat

namespace Go.Att
open Go.RowKit

def BoolT (_:World) (v:Value) (x:Bool):Prop:=v=.agg #[.bool x]
theorem BoolT.ext {w w':World} {v:Value} {x:Bool} (h:BoolT w v x) (_:Ext w w'):BoolT w' v x:=h
theorem BoolT.cells {w:World} {cs:List Value} {x:Bool} (h:BoolT w (.agg cs.toArray) x):cs=[.bool x]:=by
 have h:Value.agg cs.toArray=.agg #[.bool x]:=h
 simpa using h
theorem kdBo (e:TypeId):Kd e BoolT:=⟨fun h _=>h,fun h _ _=>h,fun h u hu=>by
 rw [BoolT.cells h] at hu
 simp at hu
 rw [hu];rfl⟩
theorem BoolT.row {w:World} {l:List Bool} {x:Option Addr} {m c:Nat} (h:RdRow 1 BoolT w (.slice x m c) l) (i:Nat) (hi:i < l.length):∃ (b o:Nat) (y:Bool),x=some ⟨b,o,none⟩∧w.cell? ⟨b,o+i,none⟩=some (.bool y):=by
 obtain ⟨b,o,cs,he,hcl,hT,hc⟩:=h.at dC i hi
 rw [BoolT.cells hT] at hc
 exact ⟨b,o,_,he,by have:=hc 0 dC;simpa using this⟩
theorem fill_b1 (x:Bool):Instr.fill (fun i=>some (i*1,1)) ((Array.range (1*1)).map ((Value.bool false).cells[· % (Value.bool false).cells.size]!)) [(0,.bool x)]=some #[.bool x]:=by kernel_rfl
theorem IntT.row {w:World} {l:List Int} {x:Option Addr} {m c:Nat} (h:RdRow 1 IntT w (.slice x m c) l) (i:Nat) (hi:i < l.length):∃ (b o:Nat),x=some ⟨b,o,none⟩∧w.cell? ⟨b,o+i,none⟩=some (.int .i64 l[i]):=by
 obtain ⟨b,o,cs,he,hcl,hT,hc⟩:=h.at dC i hi
 have hT:Value.agg cs.toArray=.agg #[.int .i64 l[i]]:=hT
 have hcs:cs=[.int .i64 l[i]]:=by simpa using hT
 rw [hcs] at hc
 exact ⟨b,o,he,by have:=hc 0 dC;simpa using this⟩
end Go.Att
namespace Go.Proofs.YtmlhccajicmpfaaGreat
open Go.RowKit Go.Att

theorem cext_any {w:World} {v v1:Value} {f:Fm} {bs:List Bool} (hv:RdFm w v f) (hb:RdRow 1 BoolT w v1 bs) (hk:chkF f bs.length=0) (hn:bs.length≤1000):
  Calls Tryz.prog 46 #[v,v1] w (Gives w fun v' w'=>∃ (a:Option Addr) (m c:Nat) (l:List Bool),v'=.tuple #[.slice a m c,.int .i64 0]∧l.length=m∧bs.length≤m∧m≤30000∧OwnRow 1 BoolT 4 w.heap.size w' (.slice a m c) l):=by
 refine via fun R hR=>?_
 obtain ⟨a1,k1,rfl,-,-⟩:=hb.shape
 have HNB:=qH hn
 obtain ⟨x,c,_,rfl,-⟩:=hv.op
 obtain ⟨w1,hw1,b1,c1,-,-⟩:=bx1 w [.int .i64 f.k,.int .i64 f.a,.slice x f.sub.length c] 29
 have HW:=qH hw1
 have HIN:=qH (intern_any (hv.ext b1) hk oM)
 have HBS:=qH hb
 obtain ⟨j0,j1,j2⟩:=c1.c3
 clear hw1 c1 hv hk hb hn
 obtain ⟨nb,hnb⟩:∃ nb,bs.length=nb:=⟨_,rfl⟩
 have HNL:=qH hnb
 rw [hnb] at HIN HNB HBS hR ⊢
 clear hnb
 go_enter Tryz.func46,Tryz.ntmps46
 go_upto_region 1 with (fail)
 rw [← HW.out]
 clear HW
 go_wp2_with fail
 refine HIN.out.mono ?_
 rintro e w2 ⟨_,rfl,b2,root,n,a,ca,L,rfl,h2,h20,hr0,hr1,hL,hG,hO⟩
 obtain ⟨ro,rfl⟩:∃ r:Nat,root=r:=⟨root.toNat,by omega⟩
 have HO:=qH hO
 have HG:=qH hG
 have HL:=qH hL
 have HN:Hid (2≤n∧n≤20000∧ro < n):=⟨h2,h20,by omega⟩
 have X2:=qH (eT b1 b2)
 clear h2 h20 hr0 hr1 hL hG hO HIN j0 j1 j2
 have hn20:=HN.out.2.1
 go_wp2_with (at_make;refine make_bools etB rfl _ _ rfl _ _ n rfl rfl oM (by unfold maxLen;omega) ?_;intro w3 o3 b3;have O3:=qH (BlB.of o3 (len_nays n));clear o3)
 go_loopw [31] (fun t wr=>∃ j:Nat,t=.int .i64 j∧j≤n∧Hid (Ext w2 wr)∧Hid (BlB wr w2.heap.size n 4)) (fun t _=>n - (intOf t).toNat)
 case atStart=>exact ⟨0,rfl,Nat.zero_le _,b3,O3.out⟩
 case round=>
  clear O3 b3 hn20
  obtain ⟨j,rfl,hj,hX,hB⟩:=hrel
  obtain ⟨wo,hwo⟩:∃ w0:World,w0=wr:=⟨_,rfl⟩
  subst hwo
  by_cases hjl:j < n
  ·have hd:=dT ((j:Int) < (n:Int))
   have HJ2:(0:Int)≤(j:Int)∧(j:Int) < (n:Int):=⟨by omega,by omega⟩
   have HJ1:IntKind.i64.wrap ((j:Int)+1)=((j+1:Nat):Int):=by have:=HN.out;rw [IntKind.wrap_i64];omega
   obtain ⟨bL,oL,y0,y1,y2,hae,hbo,hg⟩:=NdT.row (HO.out.rd.ext NdT.ext hX.out) HG.out j (by rw [HL.out];exact hjl)
   subst hae
   have HGD:=qH hg
   obtain ⟨p,hp⟩:∃ p:Nat,y1=p:=⟨y1.toNat,by have:=hg.2.2.1;dsimp only at this;omega⟩
   obtain ⟨q,hq⟩:∃ q:Nat,y2=q:=⟨y2.toNat,by have:=hg.2.2.2.1;dsimp only at this;omega⟩
   subst hp hq
   obtain ⟨u0,u1,u2⟩:=hbo.c3
   obtain ⟨w4,hw4,b4,c4,-,-⟩:=bx1 wo [.int .i64 y0,.int .i64 p,.int .i64 q] 193
   have HW:=qH hw4
   have C4:=qH c4
   have X4:=qH (eT hX.out b4)
   have B4:=qH (hB.out.ext b4)
   clear hw4 c4 hbo hg
   go_upto_region 8 with (fail)
   rw [← HW.out]
   clear HW u0 u1 u2
   obtain ⟨u0,u1,u2⟩:=C4.out.c3
   obtain ⟨_,ej,fj⟩:=B4.out.at j hjl
   by_cases k2:y0=2
   ·subst k2
    go_wp2_with fail
    go_roundw
    case rel=>exact ⟨j+1,by go_num,by omega,putL_below (Nat.le_refl _) [_] j X4.out,B4.out.set j _⟩
    simp [intOf]<;>omega
   have d2:(y0 == 2)=false:=beq_eq_false_iff_ne.2 k2
   by_cases k3:y0=3
   ·subst k3
    clear k2 d2
    have hp:p < nb:=by have:=HGD.out.2.2.2.2.2.2.1 rfl;dsimp only at this;omega
    have HP2:(0:Int)≤(p:Int)∧(p:Int) < (nb:Int):=⟨by omega,by omega⟩
    obtain ⟨bV,oV,yv,hve,cv⟩:=BoolT.row (HBS.out.ext BoolT.ext (eT X2.out X4.out)) p (by rw [HNL.out];exact hp)
    subst hve
    go_wp2_with fail
    go_roundw
    case rel=>exact ⟨j+1,by go_num,by omega,putL_below (Nat.le_refl _) [_] j X4.out,B4.out.set j _⟩
    simp [intOf]<;>omega
   have d3:(y0 == 3)=false:=beq_eq_false_iff_ne.2 k3
   obtain ⟨hp,hq⟩:p < n∧q < n:=by have:=HGD.out.2.2.2.2.2.2.2 k3;dsimp only at this;omega
   have HP2:(0:Int)≤(p:Int)∧(p:Int) < (n:Int):=⟨by omega,by omega⟩
   have HQ2:(0:Int)≤(q:Int)∧(q:Int) < (n:Int):=⟨by omega,by omega⟩
   obtain ⟨xp,ep,fp⟩:=B4.out.at p hp
   obtain ⟨xq,eq,fq⟩:=B4.out.at q hq
   clear k2 k3
   by_cases k4:y0=4
   ·subst k4
    clear d2 d3
    go_wp2_with fail
    go_roundw
    case rel=>exact ⟨j+1,by go_num,by omega,putL_below (Nat.le_refl _) [_] j X4.out,B4.out.set j _⟩
    simp [intOf]<;>omega
   have d4:(y0 == 4)=false:=beq_eq_false_iff_ne.2 k4
   clear k4
   by_cases k5:y0=5
   ·subst k5
    clear d2 d3 d4
    cases xp with
    | true=>
     go_wp2_with fail
     go_roundw
     case rel=>exact ⟨j+1,by go_num,by omega,putL_below (Nat.le_refl _) [_] j X4.out,B4.out.set j _⟩
     simp [intOf]<;>omega
    | false=>
     go_wp2_with fail
     go_roundw
     case rel=>exact ⟨j+1,by go_num,by omega,putL_below (Nat.le_refl _) [_] j X4.out,B4.out.set j _⟩
     simp [intOf]<;>omega
   have d5:(y0 == 5)=false:=beq_eq_false_iff_ne.2 k5
   clear k5
   by_cases k6:y0=6
   ·subst k6
    clear d2 d3 d4 d5
    cases xp with
    | true=>
     go_wp2_with fail
     go_roundw
     case rel=>exact ⟨j+1,by go_num,by omega,putL_below (Nat.le_refl _) [_] j X4.out,B4.out.set j _⟩
     simp [intOf]<;>omega
    | false=>
     go_wp2_with fail
     go_roundw
     case rel=>exact ⟨j+1,by go_num,by omega,putL_below (Nat.le_refl _) [_] j X4.out,B4.out.set j _⟩
     simp [intOf]<;>omega
   have d6:(y0 == 6)=false:=beq_eq_false_iff_ne.2 k6
   clear k6
   go_wp2_with fail
   go_roundw
   case rel=>exact ⟨j+1,by go_num,by omega,X4.out,B4.out⟩
   simp [intOf]<;>omega
  obtain rfl:j=n:=by omega
  have hd:=dF ((j:Int) < (j:Int))
  have HPT:=qH (cparts_any (HO.out.rd.ext NdT.ext hX.out) HL.out HG.out HN.out.2.1 HN.out.2.2)
  go_wp2_with fail
  refine HPT.out.mono ?_
  rintro e w5 ⟨v5,rfl,b5,l,ol,hln,hl⟩
  have HLN:Hid (l.length≤20000):=by have:=HN.out;exact qH oM
  obtain ⟨a5,k5,rfl,-,-⟩:=ol.rd.shape
  have HLI:=qH ol
  have HLB:=qH hl
  have X5:=qH (eT hX.out b5)
  have B5:=qH (hB.out.ext b5)
  clear ol hl HPT hln
  go_wp2_with fail
  clear hd
  go_loopw [12,103] (fun q t wr=>∃ (i:Nat) (a':Option Addr) (c':Nat) (m:List Bool),t=.int .i64 i∧q=.slice a' i c'∧i≤l.length∧Hid (Ext w5 wr)∧Hid (OwnRow 1 BoolT 4 w5.heap.size wr (.slice a' i c') m)∧Hid (m.length=i)) (fun _ t _=>l.length - (intOf t).toNat)
  case atStart=>exact ⟨0,none,0,[],rfl,rfl,Nat.zero_le _,Ext.refl _,OwnRow.nil _ _ _,rfl⟩
  case round=>
   obtain ⟨i,a',c',m,rfl,rfl,hi,hX6,hO6,hm⟩:=hrel
   obtain ⟨w6,hw6⟩:∃ w0:World,w0=wr:=⟨_,rfl⟩
   subst hw6
   by_cases hil:i < l.length
   ·have hd:=dT ((i:Int) < (l.length:Int))
    have HI2:(0:Int)≤(i:Int)∧(i:Int) < (l.length:Int):=⟨by omega,by omega⟩
    have HI1:IntKind.i64.wrap ((i:Int)+1)=((i+1:Nat):Int):=by have:=HLN.out;rw [IntKind.wrap_i64];omega
    obtain ⟨bI,oI,hie,ci⟩:=IntT.row (HLI.out.rd.ext IntT.ext hX6.out) i hil
    subst hie
    have hzb:=HLB.out _ (List.getElem_mem hil)
    obtain ⟨r,hr⟩:∃ r:Nat,l[i]=r:=⟨l[i].toNat,by omega⟩
    rw [hr] at ci hzb
    obtain ⟨xr,er,_⟩:=(B5.out.ext hX6.out).at r oM
    have HR2:(0:Int)≤(r:Int)∧(r:Int) < (j:Int):=⟨by omega,hzb.2⟩
    obtain ⟨m2,hm2⟩:∃ m2,m ++ [xr]=m2:=⟨_,rfl⟩
    have HM2:Hid (m2.length=i+1):=by rw [← hm2,List.length_append,hm.out];exact qH rfl
    have HME:=qH hm2
    have HIL:Hid (i < 20000):=by have:=HLN.out;exact qH oM
    clear hr hzb hm2
    go_wp2_with (refine build1W etB rF rF (T:=BoolT) BoolT.ext rF [.bool xr] (fill_b1 ..) rfl dC (y:=xr) rfl ?_;intro g8 w8 x8 _ l8;refine append_rowGL etB (kdBo _) rF _ _ rF w5.heap.size rF (hO6.out.ext BoolT.ext x8) rF l8.rd (by rw [hm.out];have:=HIL.out;omega) (by rw [hm.out];unfold maxLen;have:=HIL.out;omega) (Below.size (eT hX6.out x8)) ?_;intro v9 w9 o9 b9 g9 _;have O9:Hid (OwnRow 1 BoolT 4 w5.heap.size w9 v9 m2):=(by rw [← HME.out];exact o9);have XW:=qH (Below.trans (eT hX6.out x8) b9);obtain ⟨a11,k11,he9,-,-⟩:=O9.out.rd.shape;rw [HM2.out] at he9;subst he9)
    go_roundw
    case rel=>exact ⟨i+1,a11,k11,m2,by go_num,rfl,by omega,XW.out,O9.out,HM2.out⟩
    simp [intOf]<;>omega
   obtain rfl:i=l.length:=by omega
   have hd:=dF ((l.length:Int) < (l.length:Int))
   obtain ⟨m2,hm2⟩:∃ m2,m ++ bs=m2:=⟨_,rfl⟩
   obtain ⟨n2,hn2⟩:∃ n2,l.length+nb=n2:=⟨_,rfl⟩
   have HM2:Hid (m2.length=n2):=by rw [← hm2,← hn2,List.length_append,hm.out,HNL.out];exact qH rfl
   have HME:=qH hm2
   have HB2:Hid (nb≤n2∧n2≤30000):=by have:=HLN.out;have:=HNB.out;exact qH ⟨by omega,by omega⟩
   have X6:=qH (eT X2.out (eT X5.out hX6.out))
   clear hm2 hn2
   go_wp2_with (refine append_rowAL etB (kdBo _) rF _ _ rF w5.heap.size rF hO6.out rF (HBS.out.ext BoolT.ext X6.out) (by rw [hm.out,HNL.out];have:=HLN.out;have:=HNB.out;omega) (by rw [hm.out,HNL.out];have:=HLN.out;have:=HNB.out;unfold maxLen;omega) (Below.size hX6.out) ?_;intro v9 w9 o9 b9 g9;have O9:Hid (OwnRow 1 BoolT 4 w5.heap.size w9 v9 m2):=(by rw [← HME.out];exact o9);have XW:=qH (Below.trans X6.out (Below.mono b9 (Below.size (eT X2.out X5.out))));obtain ⟨a11,k11,he9,-,-⟩:=O9.out.rd.shape;rw [HM2.out] at he9;subst he9)
   exact hR.out _ _ (Gives.mk XW.out ⟨a11,n2,k11,m2,rfl,HM2.out,HB2.out.1,HB2.out.2,O9.out.mono (Below.size (eT X2.out X5.out))⟩)
end Go.Proofs.YtmlhccajicmpfaaGreat
