/- SpanThrough: the ranges behind every layer of a network are as the document says. Conditions: the arguments hold together at most 1048576 values (the second form, Upto). -/
import Derived.Test.YtnbbhpihlcglgaaSq
import Derived.Test.YtnbbhpihlcglgaaFrameR
import Derived.Test.YtnbbhpihlcglgaaFrame15
import Derived.Test.YtnbbhpihlcglgaaPAwake17
import Derived.Test.YtnbbhpihlcglgaaNetPlain
import Derived.Test.YtnbbhpihlcglgaaPThrough
import Derived.Test.YtnbbhpihlcglgaaPStep17
import Derived.Test.YtnbbhpihlcglgaaWidthsAll
import Derived.Test.YtnbbhpihlcglgaaPTold15
namespace Go.Proofs.Ytnbbhpihlcglgaa.spanThrough
open Go.ChangeShapes Go.WideShapes Go.ChangeAt Go.RowKit Go.Att

theorem meetN {w0 wv:World} {B:Nat} {z:Int} {a:Option Addr} {m c:Nat} (rB:Rt wv B 2 122) (hx:Ext w0 wv) (hB:w0.heap.size≤B):
  ∃ W,W=(wv.setCell ⟨B,0,none⟩ (.int .i64 z)).setCell ⟨B,1,none⟩ (.slice a m c)∧Ext w0 W∧Hid (Bx W B [.int .i64 z,.slice a m c])∧∀ n,OnNet wv (.agg #[.int .i64 z,.slice a m c]) n→RdNet RdNp W (.agg #[.int .i64 z,.slice a m c]) n:=
 ⟨Att.putL wv B 0 [.int .i64 z,.slice a m c],rfl,putL_below hB _ _ hx,Lib.hid (rB.putL_at [.int .i64 z,.slice a m c] rfl).1,fun n h=>by
  obtain ⟨a',he,h⟩:=h
  have h2:OnNet (Att.putL wv B 0 [.int .i64 z,.slice a m c]) (.agg #[.int .i64 z,.slice a m c]) n:=⟨a',he,h.putT rB (by decide) 0 [_,_] (fun _ _ h=>OwnLay.putT h rB (by decide) (by decide) (by decide) (by decide) 0 [_,_] fun _ _ h=>OwnN.putT h rB (by decide) 0 [_,_])⟩
  exact OwnNet.rd h2 fun _ _ h=>OwnN.rd h⟩
theorem in_sz {m:Nt Rat} {x:List (Rat × Rat)} (hl:lit m) (hs:∀ l∈m.2,SzL l) (hx:SzR 8 x) (he:thrE m x=0):0 < wds m.2 m.1∧(x.length:Int)=m.1∧∀ i,i≤m.2.length→SzR 1436 (xat m.2 x i):=by
 unfold thrE at he
 split at he
 ·rename_i h1
  split at he
  ·rename_i h2
   exact ⟨h1,h2,fun i hi=>(xat_sz h1 h2 hl.1 hl.2.2 hs hx i hi).le (cN_le3 (by have:=hl.2.1;omega))⟩
  ·cases he
 ·cases he
noncomputable def W1of (m:Nt Rat) (x:List (Rat × Rat)):Int:=if 0 < wds m.2 m.1 then (if (x.length:Int)=m.1 then 0 else 1) else 4
def LoopP (V W:Int) (x:List (Rat × Rat)) (i:Nat):Prop:=(V=W∧(W=0→∀ s∈x.take i,s.1≤s.2))∨(W=0∧V=4∧∃ s∈x,¬ s.1≤s.2)
theorem thr_end {m:Nt Rat} {x:List (Rat × Rat)} {V W:Int} {i:Nat} (hW:W1of m x=W) (h:LoopP V W x i) (he:i=x.length∨V≠0):thrE m x=V:=by
 unfold thrE
 unfold W1of at hW
 by_cases h1:0 < wds m.2 m.1
 ·rw [if_pos h1] at hW ⊢
  by_cases h2:(x.length:Int)=m.1
  ·rw [if_pos h2] at hW ⊢
   rcases h with ⟨h3,h4⟩ | ⟨-,h3,s,h4,h5⟩
   ·have hi:i=x.length:=he.resolve_right fun h=>h (by omega)
    subst hi
    have h6:=h4 (by omega)
    rw [List.take_length] at h6
    rw [if_pos h6]
    omega
   ·rw [if_neg fun h=>h5 (h s h4)]
    omega
  ·rw [if_neg h2] at hW ⊢
   rcases h with ⟨h3,-⟩ | ⟨h3,-,-⟩ <;> omega
 ·rw [if_neg h1] at hW ⊢
  rcases h with ⟨h3,-⟩ | ⟨h3,-,-⟩ <;> omega
theorem _root_.Go.Att.RdRow.rowOf {α:Type} {k:Nat} {T:World→Value→α→Prop} {e:TypeId} {w:World} {a:Option Addr} {n c:Nat} {l:List (List α)} (h:RdRow 1 (RowO k T e) w (.slice a n c) l) (i:Nat) (hi:i < l.length) {y:List α} (hy:l[i]=y):
  ∃ b off x m,a=some ⟨b,off,none⟩∧Hid (Bo w b (off+i) [.slice x y.length m])∧OwnRow k T e 0 w (.slice x y.length m) y:=by
 subst hy
 obtain ⟨b,off,x,m,he,hc,ho⟩:=h.rowO i hi
 exact ⟨b,off,x,m,he,Lib.hid (Bo.one hc),ho⟩
theorem thrL_at {ls:List (Lay Rat)} {x:List (Rat × Rat)} {k i:Nat} (h:i < (thrL ls x k).length):(thrL ls x k)[i]=xat ls x i:=by
 have h2:(thrL ls x k)[i]?=some (xat ls x i):=by
  rw [show thrL ls x k=(List.range k).map (xat ls x) from rfl,List.getElem?_map,List.getElem?_range (by rw [thrL_len] at h;exact h)]
  rfl
 obtain ⟨_,h3⟩:=List.getElem?_eq_some_iff.1 h2
 exact h3
set_option maxHeartbeats 40000000 in
set_option maxRecDepth 100000 in
set_option linter.unusedSimpArgs false in
theorem walk {w:World} {v0 v1:Value} {n0:Nt NN} {l0:List (NN × NN)} (hv0:RdNet RdNp w v0 n0) (hv1:RdRow 6 RdNDp w v1 l0) (_:∀ p∈l0,bND p≤1048576) (_:l0.length≤1048576):
  Calls Try.prog 13 #[v0,v1] w (Gives w fun v' _=>v'=.bool true):=by
 refine via fun R hR=>?_
 have HLI:=Lib.hid (light_any hv0)
 have HV1:=Lib.hid hv1
 obtain ⟨a0,c0,rfl,-,-,-⟩:=hv0.op
 obtain ⟨a1,c1,rfl,-,-⟩:=hv1.shape
 have HLN:Hid (∀ w',Ext w w'→Calls Try.prog 70 #[.agg #[.int .i64 n0.1,.slice a0 n0.2.length c0]] w' (Gives w' fun v' w''=>∃ o b,v'=.tuple #[o,.bool b]∧(b=true↔lit n0)∧(b=true→OnNet w'' o (mapNet oneN n0))∧∃ z a m c,o=.agg #[.int .i64 z,.slice a m c])):=fun w' x=>light_any (hv0.ext RdNp.ext x)
 obtain ⟨w1,hw1,b1,k1,-,-⟩:=bx1 w [.int .i64 n0.1,.slice a0 n0.2.length c0] 122
 have HW:=Lib.hid hw1
 have R1:Hid (Rt w1 w.heap.size 2 122):=by
  show Rt _ _ _ _
  rw [hw1]
  exact Rt.new w [_,_] _
 obtain ⟨j0,j1⟩:=k1.c2
 clear hw1 k1 hv0 hv1 HLI
 go_enter Try.func13,Try.ntmps13
 go_upto_region 1 with (fail)
 rw [← HW.out]
 clear HW
 go_wp2_with fail
 refine (HLN.out _ b1).mono ?_
 rintro e w2 ⟨_,rfl,b2,o,b,rfl,hb,ho,z,a,m,c,rfl⟩
 clear j0 j1 HLN
 obtain ⟨_,_,j0,j1,g0,g1⟩:=(R1.out.ext b2).c2
 obtain ⟨W,hW,hXW,CW,HNW⟩:=meetN (z:=z) (a:=a) (m:=m) (c:=c) (R1.out.ext b2) (Ext.trans b1 b2) (Nat.le_refl _)
 have HW:=Lib.hid hW
 have HNN:=Lib.hid HNW
 clear hW HNW
 have HON:Hid (∀ w',Ext W w'→Calls Try.prog 71 #[.slice a1 l0.length c1] w' (Gives w' fun v' w'=>OwnRow 6 OnP 152 0 w' v' (spnO l0))):=fun w' x=>(ones17_any (HV1.out.ext RdNDp.ext (Ext.trans hXW x))).mono fun _ _ ⟨v,e,b,o⟩=>⟨v,e,b,o.mono (Nat.zero_le _)⟩
 by_cases hl:lit n0
 ·obtain rfl:b=true:=hb.2 hl
  have HN0:=Lib.hid (HNN.out _ (ho rfl))
  have HL0:Hid (lit n0):=hl
  clear hb ho hl HNN
  go_upto_region 2 with (fail)
  rw [← HW.out]
  clear HW j0 j1 g0 g1
  go_wp2_with fail
  refine (HON.out _ (Ext.refl _)).mono ?_
  rintro e w3 ⟨v3,rfl,b3,o3⟩
  have HL3:Hid (RdRow 6 RdNDp w3 v3 (spnO l0)):=RdRow.mono o3.rd fun _ _ h=>OwnNPp.rd h
  clear o3 HON
  obtain ⟨a3,k3,rfl,-,-⟩:=HL3.out.shape
  obtain ⟨m0,hm0⟩:∃ m0,netQ n0=m0:=⟨_,rfl⟩
  have HLM:Hid (lit m0):=by rw [← hm0];exact netQ_lit HL0.out
  have HSM:Hid (∀ l∈m0.2,SzL l):=by rw [← hm0];exact netQ_sz n0
  have HOF:Hid (∀ w',Ext W w'→Calls Try.prog 72 #[.agg #[.int .i64 z,.slice a m c]] w' (Gives w' fun v' w'=>∃ a' k',v'=.agg #[.int .i64 m0.1,.slice a' m0.2.length k']∧QnNet w' v' m0)):=fun w' x=>(of15_any (HN0.out.ext RdNp.ext x) HL0.out.map (netO_nlt n0)).mono fun e w2 ⟨v,e,b,o⟩=>by
   have h:QnNet w2 v m0:=by rw [← hm0];exact o
   obtain ⟨a',k',hv,-,-,-⟩:=(OwnNet.rd h fun _ _ h=>h).op
   exact ⟨v,e,b,a',k',hv,h⟩
  clear hm0 HN0 HL0
  obtain ⟨x,hx⟩:∃ x,spnQ l0=x:=⟨_,rfl⟩
  have HXS:Hid (SzR 8 x):=by rw [← hx];exact spnQ_sz l0
  have HXL:Hid (x.length≤34):=by rw [← hx];exact spnQ_len l0
  have HLS:Hid (∀ w',Ext w3 w'→Calls Try.prog 16 #[.slice a3 (spnO l0).length k3] w' (Gives w' fun v' w'=>∃ a' k',v'=.slice a' x.length k'∧OwnRow 6 SnD 34 0 w' v' x)):=fun w' y=>(list17_any (HL3.out.ext RdNDp.ext y) (spnO_nlt l0)).mono fun e w2 ⟨v,e,b,o⟩=>by
   have h:OwnRow 6 SnD 34 0 w2 v x:=by rw [← hx];exact o.mono (Nat.zero_le _)
   obtain ⟨a',k',hv,-,-⟩:=h.rd.shape
   exact ⟨v,e,b,a',k',hv,h⟩
  clear hx HL3
  generalize (spnO l0).length=nl at*
  have CW3:=Lib.hid (CW.out.ext b3)
  obtain ⟨j0,j1⟩:=CW3.out.c2
  go_wp2_with fail
  refine (HOF.out _ b3).mono ?_
  rintro e w4 ⟨_,rfl,b4,a4,k4,rfl,o4⟩
  clear j0 j1
  go_wp2_with fail
  refine (HLS.out _ b4).mono ?_
  rintro e w5 ⟨_,rfl,b5,a5,k5,rfl,o5⟩
  have HM5:=Lib.hid (RdNet.ext (OwnNet.rd (S:=RdQ) o4 fun _ _ h=>OwnQ.rd h) RdQ.ext b5)
  have HX5:=Lib.hid o5
  clear o4 o5
  obtain ⟨w6,hw6,b6,c6,-,-⟩:=bx1 w5 [.int .i64 m0.1,.slice a4 m0.2.length k4] 128
  have HW:=Lib.hid hw6
  have C6:=Lib.hid c6
  obtain ⟨j0,j1⟩:=(CW3.out.ext (Ext.trans b4 (Ext.trans b5 b6))).c2
  clear hw6 c6
  go_upto_region 6 with (fail)
  rw [← HW.out]
  clear HW
  go_wp2_with fail
  refine (HOF.out _ (Ext.trans b3 (Ext.trans b4 (Ext.trans b5 b6)))).mono ?_
  rintro e w7 ⟨_,rfl,b7,a7,k7,rfl,o7⟩
  clear j0 j1
  go_wp2_with fail
  refine (HLS.out _ (Ext.trans b4 (Ext.trans b5 (Ext.trans b6 b7)))).mono ?_
  rintro e w8 ⟨_,rfl,b8,a8,k8,rfl,o8⟩
  go_wp2_with fail
  refine (through_any (RdNet.ext (OwnNet.rd o7 fun _ _ h=>h) OwnQ.ext b8) o8.rd HLM.out HSM.out HXS.out HXL.out).mono ?_
  rintro e w9 ⟨_,rfl,b9,oT,rfl,hT0,hT1⟩
  clear o7 o8
  have HT0:=Lib.hid hT0
  have HT1:=Lib.hid hT1
  clear hT0 hT1
  obtain ⟨aT,nT,kT,hoT⟩:∃ aT nT kT,oT=.slice aT nT kT:=by
   by_cases h:thrE m0 x=0
   ·obtain ⟨aT,kT,h,-,-⟩:=(HT1.out h).rd.shape
    exact ⟨_,_,_,h⟩
   ·exact ⟨_,_,_,HT0.out h⟩
  subst hoT
  obtain ⟨j0,j1⟩:=(C6.out.ext (Ext.trans b7 (Ext.trans b8 b9))).c2
  go_upto_region 7 with (fail)
  go_wp2_with fail
  refine (told15_any (HM5.out.ext RdQ.ext (Ext.trans b6 (Ext.trans b7 (Ext.trans b8 b9)))) HLM.out HSM.out).mono ?_
  rintro e w10 ⟨vm,rfl,b10,om⟩
  clear j0 j1
  have om2:=om
  obtain ⟨am,km,rfl,-,-,-⟩:=om2.op
  clear om2
  go_wp2_with fail
  refine (r15widths_any om HLM.out).mono ?_
  rintro e w11 ⟨_,rfl,b11,aw,nw,kw,rfl⟩
  clear om
  obtain ⟨E,hE⟩:∃ E,thrE m0 x=E:=⟨_,rfl⟩
  have HE:=Lib.hid hE
  rw [hE] at HT0 HT1
  clear hE
  have C11:=Lib.hid (C6.out.ext (Ext.trans b7 (Ext.trans b8 (Ext.trans b9 (Ext.trans b10 b11)))))
  have HX11:=Lib.hid (HX5.out.ext OwnD.ext (Ext.trans b6 (Ext.trans b7 (Ext.trans b8 (Ext.trans b9 (Ext.trans b10 b11))))))
  obtain ⟨j0,j1⟩:=C11.out.c2
  obtain ⟨W0,hW0⟩:∃ W0:Int,(if 0 < wds m0.2 m0.1 then 0 else 4)=W0:=⟨_,rfl⟩
  have HW0:=Lib.hid hW0
  rw [hW0]
  clear hW0
  go_upto_region 8 with (fail)
  go_cut [51] (fun s51 wx=>s51=.bool (decide (W0=0∧¬ (x.length:Int)=m0.1))∧w11=wx)
  case first=>
   by_cases h1:W0=0
   ·have e1:(W0 == 0)=true:=by rw [h1];rfl
    by_cases h2:(x.length:Int)=m0.1
    ·have e2:((x.length:Int) != m0.1)=false:=by rw [h2];exact bne_self_eq_false _
     have e3:decide (W0=0∧¬ (x.length:Int)=m0.1)=false:=decide_eq_false fun h=>h.2 h2
     have HE3:=Lib.hid e3
     clear h1 h2 e3
     go_wp2_with fail
     go_meet
     exact ⟨by rw [HE3.out],rfl⟩
    ·have e2:((x.length:Int) != m0.1)=true:=by simp [h2]
     have e3:decide (W0=0∧¬ (x.length:Int)=m0.1)=true:=decide_eq_true ⟨h1,h2⟩
     have HE3:=Lib.hid e3
     clear h1 h2 e3
     go_wp2_with fail
     go_meet
     exact ⟨by rw [HE3.out],rfl⟩
   ·have e1:(W0 == 0)=false:=beq_false_of_ne h1
    have e3:decide (W0=0∧¬ (x.length:Int)=m0.1)=false:=decide_eq_false fun h=>h1 h.1
    have HE3:=Lib.hid e3
    clear h1 e3
    go_wp2_with fail
    go_meet
    exact ⟨by rw [HE3.out],rfl⟩
  case rest=>
   obtain ⟨rfl,hwc⟩:=hcut
   subst hwc
   obtain ⟨W1,hW1⟩:∃ W1:Int,W1of m0 x=W1:=⟨_,rfl⟩
   have HW1:=Lib.hid hW1
   clear hW1
   go_upto_if 51 with (fail)
   go_cut [11] (fun s11 wx=>s11=.int .i64 W1∧w11=wx)
   case first=>
    by_cases h3:W0=0∧¬ (x.length:Int)=m0.1
    ·have e3:decide (W0=0∧¬ (x.length:Int)=m0.1)=true:=decide_eq_true h3
     have h4:Hid (1=W1):=by
      show _=_
      rw [← HW1.out]
      unfold W1of
      have:=HW0.out
      have hp:0 < wds m0.2 m0.1:=by
       refine Classical.byContradiction fun h=>?_
       rw [if_neg h] at this
       omega
      rw [if_pos hp,if_neg h3.2]
     rw [e3]
     clear e3 h3
     go_wp2_with fail
     go_meet
     exact ⟨by rw [h4.out],rfl⟩
    ·have e3:decide (W0=0∧¬ (x.length:Int)=m0.1)=false:=decide_eq_false h3
     have h4:Hid (W0=W1):=by
      show _=_
      rw [← HW1.out,← HW0.out]
      unfold W1of
      have:=HW0.out
      by_cases hp:0 < wds m0.2 m0.1
      ·rw [if_pos hp,if_pos hp]
       rw [if_pos hp] at this
       rw [if_pos (Classical.byContradiction fun h=>h3 ⟨by omega,h⟩)]
      ·rw [if_neg hp,if_neg hp]
     rw [e3]
     clear e3 h3
     go_wp2_with fail
     go_meet
     exact ⟨by rw [h4.out],rfl⟩
   case rest=>
    obtain ⟨rfl,hwc⟩:=hcut
    subst hwc
    go_upto_block 0 with (fail)
    go_cut [11] (fun s11 wx=>s11=.int .i64 E∧Ext w11 wx)
    case first=>
     clear j0 j1
     go_wp2_with fail
     go_loopw [11,12] (fun s11 s12 wr=>∃ (V:Int) (i:Nat),s11=.int .i64 V∧s12=.int .i64 i∧i≤x.length∧Hid (Ext w11 wr)∧Hid (LoopP V W1 x i)) (fun _ s12 _=>x.length - (intOf s12).toNat)
     case atStart=>exact ⟨W1,0,rfl,rfl,Nat.zero_le _,Ext.refl _,.inl ⟨rfl,fun _=>by rw [List.take_zero];exact fun s h=>by cases h⟩⟩
     case round=>
      obtain ⟨V,i,rfl,rfl,hi,hX,hP⟩:=hrel
      obtain ⟨w12,hw12⟩:∃ w0:World,w0=wr:=⟨_,rfl⟩
      subst hw12
      have hxl:=HXL.out
      by_cases hil:i < x.length
      ·have hd:decide ((i:Int) < (x.length:Int))=true:=decide_eq_true (by omega)
       have HJ1:IntKind.i64.wrap ((i:Int)+1)=((i+1:Nat):Int):=by rw [IntKind.wrap_i64];omega
       have HI2:(0:Int)≤(i:Int)∧(i:Int) < (x.length:Int):=⟨by omega,by omega⟩
       by_cases hV:V=0
       ·have hW1:W1=0:=by
         rcases hP.out with ⟨h,-⟩ | ⟨-,h,-⟩
         ·rw [← h];exact hV
         ·omega
        have hA:∀ s∈x.take i,s.1≤s.2:=by
         rcases hP.out with ⟨-,h⟩ | ⟨-,h,-⟩
         ·exact h hW1
         ·omega
        have HA:=Lib.hid hA
        have HWZ:=Lib.hid hW1
        subst hV
        obtain ⟨b,off,cs,hae,hcl,hT,hc⟩:=(HX11.out.ext OwnD.ext hX.out).rd.at (by decide) i hil
        subst hae
        obtain ⟨y0,y1,y2,y3,y4,y5,rfl,hq1,hq2⟩:=cells_DO hT
        have CX:Hid (Bo w12 b (off+i*6) [y0,y1,y2,y3,y4,y5]):=Bo.of hc
        have HTK:Hid (x.take (i+1)=x.take i ++ [x[i]]):=(List.take_append_getElem hil).symm
        have HMM:Hid (x[i]∈x):=List.getElem_mem hil
        have HS:=Lib.hid (HXS.out _ (List.getElem_mem hil))
        have HQ1:=Lib.hid hq1
        have HQ2:=Lib.hid hq2
        clear hT hc hcl hq1 hq2 hA hW1 hP
        generalize x[i]=s at*
        obtain ⟨tt,htt⟩:∃ tt,(s.1 - s.2).num.sign=tt:=⟨_,rfl⟩
        have HCM:Hid (∀ w',Ext w12 w'→Calls Try.prog 30 #[.agg #[y0,y1,y2],.agg #[y3,y4,y5]] w' (Gives w' fun v' _=>v'=.int .i64 tt)):=fun w' XE=>htt ▸ rcmp_any (HQ1.out.rd.ext XE) (HQ2.out.rd.ext XE) (HS.out.1.le (by decide)) (HS.out.2.le (by decide))
        have HTT:=Lib.hid htt
        clear htt
        go_upto_region 13 with (fail)
        have b13:=drew_ext w12
        have XE:=b13
        refine wp_region_noPanic ?_
        refine wp_region_held_drew (S:=fun w'=>w'.cell? ⟨b,off+i*6,none⟩=some (y0)∧w'.cell? ⟨b,off+i*6+1,none⟩=some (y1)∧w'.cell? ⟨b,off+i*6+2,none⟩=some (y2)∧w'.cell? ⟨b,off+i*6+3,none⟩=some (y3)∧w'.cell? ⟨b,off+i*6+4,none⟩=some (y4)∧w'.cell? ⟨b,off+i*6+5,none⟩=some (y5)) (by kernel_rfl) ((CX.out.ext XE).c6) (fun hHeld=>?_)
        refine tkH 0 hHeld ?_
        simp only [jP,jA,jB,jC,jD,jE,jF]
        refine tkH 1 hHeld ?_
        simp only [jP,jA,jB,jC,jD,jE,jF]
        refine tkH 2 hHeld ?_
        simp only [jP,jA,jB,jC,jD,jE,jF]
        refine tkH 3 hHeld ?_
        simp only [jP,jA,jB,jC,jD,jE,jF]
        refine tkH 4 hHeld ?_
        simp only [jP,jA,jB,jC,jD,jE,jF]
        refine tkH 5 hHeld ?_
        simp only [jP,jA,jB,jC,jD,jE,jF]
        refine tkH 6 hHeld ?_
        simp only [jP,jA,jB,jC,jD,jE,jF]
        refine tkH 7 hHeld ?_
        simp only [jP,jA,jB,jC,jD,jE,jF]
        refine tkH 8 hHeld ?_
        simp only [jP,jA,jB,jC,jD,jE,jF]
        refine tkH 9 hHeld ?_
        simp only [jP,jA,jB,jC,jD,jE,jF]
        refine rdH 10 (by kernel_rfl) rfl (fun K hK=>?_)
        go_simp
        go_at_call 30;refine (HCM.out _ XE).mono ?_;rintro e w14 ⟨_,rfl,b14,rfl⟩;(first | have XE:=Ext.trans XE b14 | have XE:=Ext.trans (Ext.trans XE (Ext.alloc _ _)) b14)
        go_wp2_with fail
        refine hK.out _ _ ((CX.out.ext XE).c6) (fun hHeld=>?_)
        clear hK K
        try simp only [jP,jA,jB,jC,jD,jE,jF]
        refine tkH 11 hHeld ?_
        simp only [jP,jA,jB,jC,jD,jE,jF]
        refine wpAnyH_done (by kernel_rfl) ?_ _
        refine NoPanic.normal ?_
        by_cases hck:s.1≤s.2
        ·rw [decide_eq_false (show ¬ 0 < tt by rw [← HTT.out];exact Int.not_lt.2 (sign_le.2 hck))]
         have HT2:Hid (LoopP 0 W1 x (i+1)):=.inl ⟨HWZ.out.symm,fun _=>by rw [HTK.out];exact fun u hu=>(List.mem_append.1 hu).elim (fun h=>HA.out u h) fun h=>by rw [List.mem_singleton.1 h];exact hck⟩
         clear hck
         go_wp2_with fail
         go_roundw
         case rel=>exact ⟨0,i+1,rfl,by go_num,by omega,Ext.trans hX.out XE,HT2⟩
         case measure=>simp [intOf] <;> omega
        ·rw [decide_eq_true (show 0 < tt by rw [← HTT.out];exact Int.not_le.1 fun h=>hck (sign_le.1 h))]
         have HT2:Hid (LoopP 4 W1 x (i+1)):=.inr ⟨HWZ.out,rfl,s,HMM.out,hck⟩
         clear hck
         go_wp2_with fail
         go_roundw
         case rel=>exact ⟨4,i+1,rfl,by go_num,by omega,Ext.trans hX.out XE,HT2⟩
         case measure=>simp [intOf] <;> omega
       ·have hv:(V == 0)=false:=beq_false_of_ne hV
        have HEE:=Lib.hid (thr_end HW1.out hP.out (.inr hV))
        clear hV hP
        go_wp2_with fail
        go_meet
        exact ⟨by rw [← HE.out,HEE.out],hX.out⟩
      ·obtain rfl:i=x.length:=by omega
       have hd:decide ((x.length:Int) < (x.length:Int))=false:=decide_eq_false (by omega)
       have HEE:=Lib.hid (thr_end HW1.out hP.out (.inl rfl))
       clear hP
       go_wp2_with fail
       go_meet
       exact ⟨by rw [← HE.out,HEE.out],hX.out⟩
    case rest=>
     obtain ⟨rfl,b12⟩:=hcut
     generalize wc=w12 at*
     clear j0 j1
     have C12:=Lib.hid (C11.out.ext b12)
     obtain ⟨j0,j1⟩:=C12.out.c2
     have hb0:=Ext.trans hXW (Ext.trans b3 (Ext.trans b4 (Ext.trans b5 (Ext.trans b6 (Ext.trans b7 (Ext.trans b8 (Ext.trans b9 (Ext.trans b10 (Ext.trans b11 b12)))))))))
     by_cases hE0:E=0
     ·have hOT:=HT1.out hE0
      obtain ⟨hwd,hxz,hsz⟩:=in_sz HLM.out HSM.out HXS.out (HE.out.trans hE0)
      subst hE0
      have HWD:=Lib.hid hwd
      have HXZ:=Lib.hid hxz
      have HSZ:=Lib.hid hsz
      clear hwd hxz hsz HT0 HT1
      obtain ⟨_,_,he,-,-⟩:=hOT.rd.shape
      simp only [Value.slice.injEq] at he
      obtain ⟨rfl,hn,rfl⟩:=he
      have HOT:=Lib.hid hOT
      rw [thrL_len] at hn
      clear hOT
      have hl3:=HLM.out.2.1
      have HJ:IntKind.i64.wrap ((m0.2.length:Int)+1)=(nT:Int):=by rw [IntKind.wrap_i64];omega
      have HN0:(0:Int)≤0∧(0:Int) < (nT:Int):=⟨by omega,by omega⟩
      have HNT:=Lib.hid hn
      have ht0:=thrL_at (ls:=m0.2) (x:=x) (k:=m0.2.length+1) (i:=0) (by rw [thrL_len];omega)
      rw [xat_zero] at ht0
      obtain ⟨bT,oT,p0,q0,haT,CT0,HR0⟩:=(HOT.out.ext snr_ext (Ext.trans b10 (Ext.trans b11 b12))).rd.rowOf 0 (by rw [thrL_len];omega) ht0
      subst haT
      have HTA:Hid (∀ w' v,RdRow 6 RdDp w' v x→Calls Try.prog 22 #[v] w' (Gives w' fun v' w'=>RdRow 6 RdEp w' v' x)):=fun w' v h=>(told17_any h (fun p hp=>⟨(HXS.out p hp).1.le (by decide),(HXS.out p hp).2.le (by decide)⟩) (by have:=HXL.out;omega)).mono fun _ _ ⟨v,e,b,o⟩=>⟨v,e,b,RdRow.mono o.rd fun _ _ h=>OwnE.rd h⟩
      have HSA:Hid (∀ w' va vb,RdRow 6 RdEp w' va x→RdRow 6 RdEp w' vb x→Calls Try.prog 21 #[va,vb] w' (Gives w' fun v' _=>v'=.bool true)):=fun w' va vb h1 h2=>same17_yes h1 h2 fun p hp=>⟨(HXS.out p hp).1.bits.le (by decide),(HXS.out p hp).2.bits.le (by decide)⟩
      have HXD:=Lib.hid ((HX11.out.ext OwnD.ext b12).rd)
      have HRD:=Lib.hid HR0.rd
      clear ht0 HR0 hn
      go_wp2_with fail
      refine awake17.mono ?_
      rintro e w13 ⟨_,rfl,b13,rfl⟩
      clear j0 j1
      obtain ⟨j0,j1⟩:=(C12.out.ext b13).c2
      have t0:=(CT0.out.ext b13).c1
      rw [Nat.add_zero] at t0
      go_wp2_with fail
      refine (HTA.out _ _ (RdRow.mono (HRD.out.ext OwnD.ext b13) fun _ _ h=>OwnD.rd h)).mono ?_
      rintro e w14 ⟨v14,rfl,b14,o14⟩
      go_wp2_with fail
      refine (HTA.out _ _ (RdRow.mono (HXD.out.ext OwnD.ext (Ext.trans b13 b14)) fun _ _ h=>OwnD.rd h)).mono ?_
      rintro e w15 ⟨v15,rfl,b15,o15⟩
      go_wp2_with fail
      refine (HSA.out _ _ _ (o14.ext RdE.ext b15) o15).mono ?_
      rintro e w16 ⟨_,rfl,b16,rfl⟩
      clear o14 o15 j0 j1 t0 HTA HSA
      obtain ⟨j0,j1⟩:=(C12.out.ext (Ext.trans b13 (Ext.trans b14 (Ext.trans b15 b16)))).c2
      go_wp2_with fail
      refine (told15_any (HM5.out.ext RdQ.ext (Ext.trans b6 (Ext.trans b7 (Ext.trans b8 (Ext.trans b9 (Ext.trans b10 (Ext.trans b11 (Ext.trans b12 (Ext.trans b13 (Ext.trans b14 (Ext.trans b15 b16))))))))))) HLM.out HSM.out).mono ?_
      rintro e w17 ⟨vn,rfl,b17,on⟩
      have HON:=Lib.hid on
      obtain ⟨an,kn,rfl,-,-,hrn⟩:=on.op
      have HRN:=Lib.hid hrn
      clear j0 j1 hrn HJ HN0 on
      have hfd:∀ w0,(Instr.field 137 (.agg #[.int .i64 m0.1,.slice an m0.2.length kn]) 1).run Try.prog w0=.ok (.slice an m0.2.length kn) w0:=fun _=>by kernel_rfl
      go_wp2_with fail
      go_loopw [116] (fun t wr=>∃ i:Nat,t=.int .i64 i∧i≤m0.2.length∧Hid (Ext w17 wr)) (fun t _=>m0.2.length - (intOf t).toNat)
      case atStart=>exact ⟨0,rfl,Nat.zero_le _,Ext.refl _⟩
      case round=>
       obtain ⟨i,rfl,hi,hX⟩:=hrel
       obtain ⟨w18,hw18⟩:∃ w0:World,w0=wr:=⟨_,rfl⟩
       subst hw18
       by_cases hil:i < m0.2.length
       ·have hd:decide ((i:Int) < (m0.2.length:Int))=true:=decide_eq_true (by omega)
        have HJ1:IntKind.i64.wrap ((i:Int)+1)=((i+1:Nat):Int):=by rw [IntKind.wrap_i64];omega
        have HI2:(0:Int)≤(i:Int)∧(i:Int) < (m0.2.length:Int):=⟨by omega,by omega⟩
        have HI3:(0:Int)≤(i:Int)∧(i:Int) < (nT:Int):=⟨by omega,by have:=HNT.out;omega⟩
        have HI4:(0:Int)≤(i:Int)+1∧(i:Int)+1 < (nT:Int):=⟨by omega,by have:=HNT.out;omega⟩
        obtain ⟨bL,oL,ax,mx',ay,my,az,mz,hae,hbo,hRW,hRB,hRG⟩:=(HRN.out.ext (fun h x=>RdLay.ext h OwnP.ext x) hX.out).lay i hil
        subst hae
        have hx9:=Ext.trans (Ext.trans b10 (Ext.trans b11 (Ext.trans b12 (Ext.trans b13 (Ext.trans b14 (Ext.trans b15 (Ext.trans b16 b17))))))) hX.out
        obtain ⟨_,_,p0,q0,hb1,CT0,HR0⟩:=(HOT.out.ext snr_ext hx9).rd.rowOf i (by rw [thrL_len];omega) (thrL_at (by rw [thrL_len];omega))
        simp only [Option.some.injEq,Addr.mk.injEq,and_true] at hb1
        obtain ⟨rfl,rfl⟩:=hb1
        obtain ⟨_,_,p1,q1,hb1,CT1,HR1⟩:=(HOT.out.ext snr_ext hx9).rd.rowOf (i+1) (by rw [thrL_len];omega) (thrL_at (by rw [thrL_len];omega))
        simp only [Option.some.injEq,Addr.mk.injEq,and_true] at hb1
        obtain ⟨rfl,rfl⟩:=hb1
        have HSC:=Lib.hid (xat_succ (x:=x) hil)
        have HL0:=Lib.hid (xat_len HWD.out HXZ.out i hi)
        have HZ0:Hid (SzR 348 (xat m0.2 x i)):=(xat_sz HWD.out HXZ.out HLM.out.1 HLM.out.2.2 HSM.out HXS.out i hi).le (cN_le (by omega))
        have HZ1:Hid (SzR 1436 (xat m0.2 x (i+1))):=HSZ.out (i+1) hil
        have HW4:Hid (wds (m0.2.take i) m0.1≤4):=wds_le HWD.out HLM.out.1 HLM.out.2.2 i hi
        have HL1:=Lib.hid (xat_len HWD.out HXZ.out (i+1) hil)
        have HW5:Hid (wds (m0.2.take (i+1)) m0.1≤4):=wds_le HWD.out HLM.out.1 HLM.out.2.2 (i+1) hil
        have HWT:=Lib.hid (wdt_at HWD.out i hil).2
        have HLL:Hid (litL m0.2[i]):=HLM.out.2.2 _ (List.getElem_mem hil)
        have HSS:Hid (SzL m0.2[i]):=HSM.out _ (List.getElem_mem hil)
        obtain ⟨l,hl⟩:∃ l,m0.2[i]=l:=⟨_,rfl⟩
        rw [hl] at hbo hRW hRB hRG HLL HSS HSC HWT
        clear hl
        generalize xat m0.2 x i=y0 at*
        generalize xat m0.2 x (i+1)=y1 at*
        have HY0:Hid (y0.length≤4):=by have h1:=HL0.out;have h2:=HW4.out;show _≤_;omega
        have HY1:Hid (y1.length≤4):=by have h1:=HL1.out;have h2:=HW5.out;show _≤_;omega
        generalize wds (m0.2.take i) m0.1=wn at*
        obtain ⟨u0,u1,u2,u3⟩:=hbo.c4
        obtain ⟨w19,hw19,b19,c19,-,-⟩:=bx1 w18 [.int .i64 l.K,.slice ax l.W.length mx',.slice ay l.B.length my,.slice az l.G.length mz] 142
        have HW:=Lib.hid hw19
        have CL:=Lib.hid c19
        have CA:=Lib.hid (CT0.out.ext b19)
        have CB:=Lib.hid (CT1.out.ext b19)
        have HTB:Hid (∀ w',Ext w19 w'→Calls Try.prog 22 #[.slice p0 y0.length q0] w' (Gives w' fun v' w'=>RdRow 6 TnE w' v' y0)):=fun w' x=>(told17_any (RdRow.mono (HR0.rd.ext OwnD.ext (Ext.trans b19 x)) fun _ _ h=>OwnD.rd h) (fun p hp=>⟨(HZ0.out p hp).1.le (by decide),(HZ0.out p hp).2.le (by decide)⟩) (by have:=HY0.out;omega)).mono fun _ _ ⟨v,e,b,o⟩=>⟨v,e,b,o.rd⟩
        have HTA:Hid (∀ w',Ext w19 w'→Calls Try.prog 22 #[.slice p1 y1.length q1] w' (Gives w' fun v' w'=>RdRow 6 TnE w' v' y1)):=fun w' x=>(told17_any (RdRow.mono (HR1.rd.ext OwnD.ext (Ext.trans b19 x)) fun _ _ h=>OwnD.rd h) (fun p hp=>⟨(HZ1.out p hp).1.le (by decide),(HZ1.out p hp).2.le (by decide)⟩) (by have:=HY1.out;omega)).mono fun _ _ ⟨v,e,b,o⟩=>⟨v,e,b,o.rd⟩
        have HLAY:Hid (RdLay (OwnPp 4) w19 (.agg #[.int .i64 l.K,.slice ax l.W.length mx',.slice ay l.B.length my,.slice az l.G.length mz]) l):=RdLay.ext ⟨_,_,_,rfl,hRW,hRB,hRG⟩ OwnP.ext b19
        have HST:Hid (∀ w' v,Ext w19 w'→RdRow 6 TnE w' v y0→Calls Try.prog 76 #[.agg #[.int .i64 l.K,.slice ax l.W.length mx',.slice ay l.B.length my,.slice az l.G.length mz],v] w' (Gives w' fun v' w'=>RdRow 6 TnE w' v' y1)):=fun w' v x h=>(step17_any (HLAY.out.ext OwnP.ext x) h HWT.out HL0.out HW4.out HLL.out HSS.out HZ0.out).mono fun _ _ ⟨v,e,b,o⟩=>⟨v,e,b,by rw [HSC.out];exact o.rd⟩
        have HSA:Hid (∀ w' va vb,RdRow 6 TnE w' va y1→RdRow 6 TnE w' vb y1→Calls Try.prog 21 #[va,vb] w' (Gives w' fun v' _=>v'=.bool true)):=fun w' va vb h1 h2=>same17_yes (RdRow.mono h1 fun _ _ h=>OwnE.rd h) (RdRow.mono h2 fun _ _ h=>OwnE.rd h) fun p hp=>⟨(HZ1.out p hp).1.bits.le (by decide),(HZ1.out p hp).2.bits.le (by decide)⟩
        clear hw19 c19 hbo hRW hRB hRG HR0 HR1 HLAY HSC HL0 HL1 HWT HLL HSS
        go_upto_region 22 with (fail)
        rw [← HW.out]
        clear HW u0 u1 u2 u3
        have b20:=drew_ext w19
        have XE:=b20
        refine wp_region_noPanic ?_
        refine wp_region_held_drew (S:=fun w'=>(w'.cell? ⟨w18.heap.size,0,none⟩=some (.int .i64 l.K)∧w'.cell? ⟨w18.heap.size,1,none⟩=some (.slice ax l.W.length mx')∧w'.cell? ⟨w18.heap.size,2,none⟩=some (.slice ay l.B.length my)∧w'.cell? ⟨w18.heap.size,3,none⟩=some (.slice az l.G.length mz))∧(w'.cell? ⟨bT,oT+(i+1),none⟩=some (.slice p1 y1.length q1))∧(w'.cell? ⟨bT,oT+i,none⟩=some (.slice p0 y0.length q0))) (by kernel_rfl) (⟨(CL.out.ext XE).c4,(CB.out.ext XE).c1,(CA.out.ext XE).c1⟩) (fun hHeld=>?_)
        refine tkH 0 hHeld ?_
        simp only [jP,jA,jB,jC,jD,jE,jF]
        refine tkH 1 hHeld ?_
        simp only [jP,jA,jB,jC,jD,jE,jF]
        refine tkH 2 hHeld ?_
        simp only [jP,jA,jB,jC,jD,jE,jF]
        refine tkH 3 hHeld ?_
        simp only [jP,jA,jB,jC,jD,jE,jF]
        refine tkH 4 hHeld ?_
        simp only [jP,jA,jB,jC,jD,jE,jF]
        refine tkH 6 hHeld ?_
        simp only [jP,jA,jB,jC,jD,jE,jF]
        refine tkH 7 hHeld ?_
        simp only [jP,jA,jB,jC,jD,jE,jF]
        refine tkH 8 hHeld ?_
        simp only [jP,jA,jB,jC,jD,jE,jF]
        refine tkH 9 hHeld ?_
        simp only [jP,jA,jB,jC,jD,jE,jF]
        refine tkH 10 hHeld ?_
        simp only [jP,jA,jB,jC,jD,jE,jF]
        refine rdH 5 (by kernel_rfl) rfl (fun K hK=>?_)
        go_simp
        go_at_call 22;refine (HTA.out _ XE).mono ?_;rintro e w21 ⟨v21,rfl,b21,o21⟩;have O21:=Lib.hid o21;clear o21;(first | have XE:=Ext.trans XE b21 | have XE:=Ext.trans (Ext.trans XE (Ext.alloc _ _)) b21)
        go_wp2_with fail
        refine hK.out _ _ (⟨(CL.out.ext XE).c4,(CB.out.ext XE).c1,(CA.out.ext XE).c1⟩) (fun hHeld=>?_)
        clear hK K
        try simp only [jP,jA,jB,jC,jD,jE,jF]
        refine rdH 11 (by kernel_rfl) rfl (fun K hK=>?_)
        go_simp
        go_at_call 22;refine (HTB.out _ XE).mono ?_;rintro e w22 ⟨v22,rfl,b22,o22⟩;have O22:=Lib.hid o22;clear o22;(first | have XE:=Ext.trans XE b22 | have XE:=Ext.trans (Ext.trans XE (Ext.alloc _ _)) b22)
        go_wp2_with fail
        refine hK.out _ _ (⟨(CL.out.ext XE).c4,(CB.out.ext XE).c1,(CA.out.ext XE).c1⟩) (fun hHeld=>?_)
        clear hK K
        try simp only [jP,jA,jB,jC,jD,jE,jF]
        refine rdH 12 (by kernel_rfl) rfl (fun K hK=>?_)
        go_simp
        go_at_call 76;refine (HST.out _ _ XE O22.out).mono ?_;rintro e w23 ⟨v23,rfl,b23,o23⟩;have O23:=Lib.hid o23;clear o23;(first | have XE:=Ext.trans XE b23 | have XE:=Ext.trans (Ext.trans XE (Ext.alloc _ _)) b23)
        go_wp2_with fail
        refine hK.out _ _ (⟨(CL.out.ext XE).c4,(CB.out.ext XE).c1,(CA.out.ext XE).c1⟩) (fun hHeld=>?_)
        clear hK K
        try simp only [jP,jA,jB,jC,jD,jE,jF]
        refine rdH 13 (by kernel_rfl) rfl (fun K hK=>?_)
        go_simp
        go_at_call 21;refine (HSA.out _ _ _ (O21.out.ext tne_ext (Ext.trans b22 b23)) O23.out).mono ?_;rintro e w24 ⟨_,rfl,b24,rfl⟩;(first | have XE:=Ext.trans XE b24 | have XE:=Ext.trans (Ext.trans XE (Ext.alloc _ _)) b24)
        go_wp2_with fail
        refine hK.out _ _ (⟨(CL.out.ext XE).c4,(CB.out.ext XE).c1,(CA.out.ext XE).c1⟩) (fun hHeld=>?_)
        clear hK K
        try simp only [jP,jA,jB,jC,jD,jE,jF]
        refine tkH 14 hHeld ?_
        simp only [jP,jA,jB,jC,jD,jE,jF]
        refine wpAnyH_done (by kernel_rfl) ?_ _
        refine NoPanic.normal ?_
        go_wp2_with fail
        go_roundw
        case rel=>exact ⟨i+1,by go_num,by omega,Ext.trans hX.out (Ext.trans b19 XE)⟩
        case measure=>simp [intOf] <;> omega
       ·obtain rfl:i=m0.2.length:=by omega
        have hd:decide ((m0.2.length:Int) < (m0.2.length:Int))=false:=decide_eq_false (by omega)
        go_wp2_with fail
        exact hR.out _ _ (Gives.mk (Ext.trans hb0 (Ext.trans (Ext.trans b13 (Ext.trans b14 (Ext.trans b15 (Ext.trans b16 b17)))) hX.out)) rfl)
     ·have he0:(E != 0)=true:=by simp [hE0]
      have hOT:=HT0.out hE0
      simp only [Value.slice.injEq] at hOT
      obtain ⟨rfl,rfl,rfl⟩:=hOT
      have hee:(E == E)=true:=by simp
      clear HT0 HT1 hE0
      go_wp2_with fail
      refine awake17.mono ?_
      rintro e w13 ⟨_,rfl,b13,rfl⟩
      go_wp2_with fail
      exact hR.out _ _ (Gives.mk (Ext.trans hb0 b13) rfl)
 ·obtain rfl:b=false:=by
   cases b with
   | false=>rfl
   | true=>exact absurd (hb.1 rfl) hl
  clear hb ho hl HNN
  go_upto_region 2 with (fail)
  rw [← HW.out]
  clear HW j0 j1 g0 g1
  go_wp2_with fail
  refine (HON.out _ (Ext.refl _)).mono ?_
  rintro e w3 ⟨v3,rfl,b3,o3⟩
  clear HON
  obtain ⟨a3,n3,k3,rfl⟩:∃ a3 n3 k3,v3=.slice a3 n3 k3:=by
   obtain ⟨_,_,h,-,-⟩:=o3.rd.shape
   exact ⟨_,_,_,h⟩
  clear o3
  go_wp2_with fail
  refine awake17.mono ?_
  rintro e w4 ⟨_,rfl,b4,rfl⟩
  go_wp2_with fail
  exact hR.out _ _ (Gives.mk (Ext.trans hXW (Ext.trans b3 b4)) rfl)
theorem own:ownKnob Try.prog.godebug=none:=by kernel_rfl
theorem laidOut:laidOutB Try.prog=true:=by kernel_rfl

set_option maxRecDepth 100000 in
theorem contract (H:Type) (enc:TypeId × Value→H) (W:World) (base:Nat) (args:Array Value) (ds gs:List (DataW H)) (before:List MemPlace)
  (hval:∀ (j:Nat) t v,Try.f13.params[j]?=some t→args[j]?=some v→Value.okWide Try.prog W .any base t v)
  (hW:DataW.Whole enc Try.prog Try.f13.params.toList Rows.spanThroughSpec.vars false W args.toList ds gs before) (hk:Rows.uptoSmall H (ds ++ gs)=true):
  Calls Try.prog 13 args W fun e W'=>∃ v,e=.returned v∧Rows.spanThroughSpec.post enc Try.prog Try.f13 false true false false W args v W':=by
 have hW':=hW
 obtain ⟨p,q,hA0,hV,rfl,hfz,hnd⟩:=hW
 have hA:DataW.TrodAll enc Try.prog W 0 (fun _=>true) true Try.f13.params.toList args.toList ds p:=hA0
 rw [Try.params13] at hA hval
 obtain ⟨v0,vs0,d0,ds0,p0,q0,hargs,rfl,rfl,h0,r0⟩:=trodAll_cons hA
 obtain ⟨v1,vs1,d1,ds1,p1,q1,rfl,rfl,rfl,h1,r1⟩:=trodAll_cons r0
 obtain ⟨rfl,rfl,rfl⟩:=trodAll_nil r1
 obtain rfl:args=#[v0,v1]:=by cases args;simp_all
 obtain ⟨rfl,rfl⟩:=trodVars_none hV
 have hb:=bulk_small hk
 simp only [List.append_nil,bulk_cons,bulk_nil] at hb
 have k0:=h0
 have lt0:∀ x∈p0,x.block < W.heap.size:=by obtain ⟨m,hm⟩:=k0;exact DataW.trod_lt m _ _ _ hm
 obtain ⟨n0,rd0⟩:=open_Net (hval 0 122 v0 rfl rfl) h0
 have k1:=h1
 have lt1:∀ x∈p1,x.block < W.heap.size:=by obtain ⟨m,hm⟩:=k1;exact DataW.trod_lt m _ _ _ hm
 obtain ⟨l1,rd1,bd1,len1⟩:=open_rowND Try.underlying26 Try.underlying152 rfl rfl rfl rfl (by kernel_rfl) (hval 1 26 v1 rfl rfl) h1
 clear hA0
 refine (walk rd0 rd1 (fun p hp=>by have:=bd1 p hp;omega) (by omega)).mono fun e W' ⟨v,he,bel,hv⟩=>?_
 subst he hv
 exact ⟨_,rfl,_,_,_,[],_,[],hW',trodAll_mk1 (shut_bool Try.underlying4 _),(trodAll_cons_mk (Below.trod laidOut (by kernel_rfl) (of_decide_eq_true (by kernel_rfl)) k0 bel lt0) (trodAll_cons_mk (Below.trod laidOut (by kernel_rfl) (of_decide_eq_true (by kernel_rfl)) k1 bel lt1) trodAll_mk0)),rfl,bel.frame _,fun h=>by cases h⟩

set_option maxRecDepth 100000 in
theorem lifted (os:Os) (started:os.Started) (H:Type) (enc:TypeId × Value→H) (F:Stop.Interp):
  ReturnsInHanded {} Try.checked os 13 .any ((Rows.OpenSpec.upto Rows.spanThroughSpec).pre6 enc Try.prog Try.f13 Rows.spanThroughUptoRow.domain false) (((Rows.OpenSpec.upto Rows.spanThroughSpec).at F).post enc Try.prog Try.f13 false true false false):=by
 refine returnsInHanded_of_cond (C:=Try.checked) (s:=Rows.OpenSpec.upto Rows.spanThroughSpec) (k:=Rows.uptoSmall) rfl own started (by kernel_rfl) Try.func13
  (OpenSpec.witness (enc:=enc) (C:=Try.checked) (s:=Rows.OpenSpec.upto Rows.spanThroughSpec) (k:=Rows.uptoSmall) rfl false ⟨#[],#[.agg #[.int .i64 0,.slice none 0 0],.slice none 0 0],[]⟩ 8 (by kernel_rfl) (by kernel_rfl) (by kernel_rfl)
   (x:=([.agg [.lit (.int .i64 0),.nil],.nil],[],[])) (by kernel_rfl) rfl (by kernel_rfl)) ?_
 intro W base args ds gs before hval hW _ hk _
 exact contract H enc W base args ds gs before hval hW hk

theorem proved:Rows.SpanThroughUptoSaid:=
 OpenClaim.holds_of_cond 13 Try.f13 rfl rfl rfl rfl rfl rfl rfl ⟨rfl,rfl,rfl,rfl,rfl⟩ rfl rfl rfl rfl rfl (by kernel_rfl) Try.func13 (by kernel_rfl)
  (of_decide_eq_true (by kernel_rfl)) (by unfold Func.isWrapper;first | (rw [if_pos (by decide +kernel)];kernel_rfl) | (rw [if_neg (by decide +kernel)];exact ⟨rfl,rfl⟩))
  (fun os started H enc _ F=>lifted os started H enc F)
#print axioms proved

end Go.Proofs.Ytnbbhpihlcglgaa.spanThrough
