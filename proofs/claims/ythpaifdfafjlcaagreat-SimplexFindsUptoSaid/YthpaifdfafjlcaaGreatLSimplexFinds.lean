/- SimplexFinds: constraints that hold together at some point are told to be feasible, and with one more that never holds they are not. Conditions: the arguments hold together at most 1048576 values (the second form, Upto). -/
import Derived.Test.YthpaifdfafjlcaaGreatSq
import Derived.Test.YthpaifdfafjlcaaGreatSolAll
import Derived.Test.YthpaifdfafjlcaaGreatFrameAll
import Derived.Test.YthpaifdfafjlcaaGreatPAwake21
import Derived.Test.YthpaifdfafjlcaaGreatPOnes15
import Derived.Test.YthpaifdfafjlcaaGreatRowApp
import Derived.Test.YthpaifdfafjlcaaGreatLinAll
namespace Go.Proofs.YthpaifdfafjlcaaGreat.simplexFinds
open Go.ChangeShapes Go.WideShapes Go.ChangeAt Go.RowKit Go.Att

def lenV:Value→Nat
 | .slice _ n _=>n
 | _=>0
theorem etFr:ElemT Tryz.prog 33 49 (.agg #[.bool false,.slice none 0 0,.slice none 0 0]) 3 56:=ElemT.mk' Tryz.underlying33 (by kernel_rfl) rfl (by decide)
theorem good_snoc {n0:Nat} {Q:List Rat} {H:List AT} {a:AT} (h:∀ b∈H,Good n0 Q b) (ha:Good n0 Q a):∀ b∈H ++ [a],Good n0 Q b:=fun b hb=>by
 rcases List.mem_append.1 hb with hb | hb
 ·exact h b hb
 ·obtain rfl:b=a:=by simpa using hb
  exact ha
theorem meetA {w0 w:World} {B:Nat} {x0 x1 x2 x3 x4 y0 y1 y2 y3:Value} {m:TL} {c:Rat} {op:Int} (he:x4=.int .i64 op) (hR:Rt w B 5 55) (hx:Ext w0 w) (hB:w0.heap.size≤B) (hC:Bx w B [y0,y1,y2,y3,x4]) (ho:OwnX 0 w (.agg #[x0,x1,x2,x3]) m c):
  ∃ W,W=(((w.setCell ⟨B,0,none⟩ x0).setCell ⟨B,1,none⟩ x1).setCell ⟨B,2,none⟩ x2).setCell ⟨B,3,none⟩ x3∧Ext w0 W∧Hid (Bx W B [x0,x1,x2,x3,x4])∧Hid (Rt W B 5 55)∧Hid (OwnA W (.agg #[x0,x1,x2,x3,x4]) ((m,c),op)):=by
 subst he
 refine ⟨Att.putL w B 0 [x0,x1,x2,x3],rfl,putL_below hB _ _ hx,?_,Rt.putS _ 0 hR,⟨_,_,_,_,rfl,OwnEx.putT ho hR (by decide) (by decide) 0 _⟩⟩
 exact (((hC.setI hR (by decide:0 < 5) x0).setI (Rt.putS [_] 0 hR) (by decide:1 < 5) x1).setI (Rt.putS [_] 1 (Rt.putS [_] 0 hR)) (by decide:2 < 5) x2).setI (Rt.putS [_] 2 (Rt.putS [_] 1 (Rt.putS [_] 0 hR))) (by decide:3 < 5) x3
set_option maxHeartbeats 20000000 in
set_option maxRecDepth 100000 in
set_option linter.unusedSimpArgs false in
theorem walk {w:World} {n:Int} (_hn : -9223372036854775808≤n∧n≤9223372036854775807) {v1 v2:Value} {l1:List NAT} {l2:List NN} (hv1:RdRow 5 RdNA w v1 l1) (_hb1:∀ p∈l1,bA p≤1048576) (_hn1:l1.length≤1048576) (hv2:RdRow 3 RdNp w v2 l2) (_hb2:∀ p∈l2,bN p≤1048576) (_hn2:l2.length≤1048576):
  Calls Tryz.prog 5 #[.int .i64 n,v1,v2] w (Gives w fun v' _=>v'=.bool true):=by
 refine via fun R hR=>?_
 by_cases hlt:n < 0
 ·have hd:decide (n < 0)=true:=decide_eq_true hlt
  obtain ⟨a1,k1,rfl,-,-⟩:=hv1.shape
  obtain ⟨a2,k2,rfl,-,-⟩:=hv2.shape
  clear hv1 hv2 _hb1 _hb2
  go_enter Tryz.func5,Tryz.ntmps5
  go_wp2_with fail
  refine awake21.mono ?_
  rintro e w1 ⟨_,rfl,b1,rfl⟩
  go_wp2_with fail
  exact hR.out _ _ (Gives.mk b1 rfl)
 have hd0:decide (n < 0)=false:=decide_eq_false hlt
 by_cases hgt:6 < n
 ·have hd:decide (6 < n)=true:=decide_eq_true hgt
  obtain ⟨a1,k1,rfl,-,-⟩:=hv1.shape
  obtain ⟨a2,k2,rfl,-,-⟩:=hv2.shape
  clear hv1 hv2 _hb1 _hb2 hgt
  go_enter Tryz.func5,Tryz.ntmps5
  go_wp2_with fail
  refine awake21.mono ?_
  rintro e w1 ⟨_,rfl,b1,rfl⟩
  go_wp2_with fail
  exact hR.out _ _ (Gives.mk b1 rfl)
 have hd6:decide (6 < n)=false:=decide_eq_false hgt
 obtain ⟨n0,rfl⟩:∃ n0:Nat,n=n0:=⟨n.toNat,by omega⟩
 have hn6:n0≤6:=by omega
 have HCU:Hid (Calls Tryz.prog 13 #[v1] w (Gives w fun v' w'=>OwnRow 5 OwnCa 77 w.heap.size w' v' (cutL l1))):=cut21_any hv1
 have HON:Hid (∀ w',Ext w w'→Calls Tryz.prog 19 #[v2] w' (Gives w' fun v' w''=>RdRow 3 RdNp w'' v' ((l2.take 40).map oneN))):=fun w' x=>(ones15_any (hv2.ext RdNp.ext x)).mono fun _ _ ⟨v,e,b,o⟩=>⟨v,e,b,RdRow.mono o.rd fun _ _ h=>OwnN.rd h⟩
 obtain ⟨P0,hP0⟩:∃ P0,(((l2.take 40).map oneN).take 10).map qN=P0:=⟨_,rfl⟩
 have HRT:Hid (∀ w' v,RdRow 3 RdNp w' v ((l2.take 40).map oneN)→Calls Tryz.prog 18 #[v] w' (Gives w' fun v' w''=>OwnRow 3 (OwnQp 115) 49 w'.heap.size w'' v' P0)):=fun w' v h=>hP0 ▸ rats20_any h fun p hp=>by
  obtain ⟨q,-,rfl⟩:=List.mem_map.1 hp
  exact oneN_nlt _
 have Z0:Hid (∀ p∈P0,Sz 8 p):=fun p hp=>by
  rw [← hP0] at hp
  obtain ⟨q,hq,rfl⟩:=List.mem_map.1 hp
  obtain ⟨r,-,rfl⟩:=List.mem_map.1 (List.mem_of_mem_take hq)
  exact lo_sz (one_lo _)
 have L0:P0.length≤10:=by rw [← hP0,List.length_map,List.length_take];omega
 have HAT:Hid (∀ w' v,RdRow 5 RdNA w' v (cutL l1)→Calls Tryz.prog 10 #[v] w' (Gives w' fun v' w''=>OwnRow 5 OwnA 55 w'.heap.size w'' v' (LC l1))):=fun w' v h=>atoms_cut h
 have HLI:Hid (∀ w' v a,Smx a.1.1 a.1.2→RdRow 5 OwnA w' v [a]→Calls Tryz.prog 12 #[v] w' (Gives w' fun v' w'=>RdRow 5 OwnB9 w' v' [a])):=fun w' v a hs h=>list9_in h (fun b hb=>by
  obtain rfl:b=a:=by simpa using hb
  exact hs) (by simp)
 have HCK:Hid (∀ w' v a,Smx a.1.1 a.1.2→RdRow 5 OwnB9 w' v [a]→Calls Tryz.prog 11 #[.int .i64 n0,v] w' (Gives w' fun v' _=>v'=.int .i64 (chkS n0 [a]))):=fun w' v a hs h=>rcheck21_any h fun b hb=>by
  obtain rfl:b=a:=by simpa using hb
  have:=hs.1;omega
 have HAL:Hid (∀ w' va vb a Q,Smx a.1.1 a.1.2→(1≤a.2∧a.2≤3)→(∀ p∈Q,Sz 8 p)→RdRow 5 OwnB9 w' va [a]→RdRow 3 (OwnPp 4) w' vb Q→Calls Tryz.prog 21 #[va,vb] w' (Gives w' fun v' _=>v'=.bool (says a.2 (av Q a)))):=fun w' va vb a Q hs ho hq h1 h2=>by
  have hin:∀ b∈[a],b=a:=fun b hb=>by simpa using hb
  refine (all21_any 380 8 h1 h2 (fun b hb=>by rw [hin b hb];exact hs.okx) hq (by decide) (by decide) (fun b hb j _=>by rw [hin b hb];exact part_sz hs hq j) (fun b hb=>by rw [hin b hb];exact ho) (by simp)).mono fun _ _ ⟨v,e,b,o⟩=>⟨v,e,b,?_⟩
  rw [o]
  simp
 have HNU:Hid (∀ w' v Q,(∀ p∈Q,Sz 8 p)→Q.length≤1000→RdRow 3 (OwnQp 115) w' v Q→Calls Tryz.prog 22 #[v] w' (Gives w' fun v' w'=>RdRow 3 (OwnPp 4) w' v' Q)):=fun w' v Q hq hl h=>nums_in h (fun p hp=>(hq p hp).le (by decide)) hl
 have HZ0:Hid (∀ w,Calls Tryz.prog 20 #[.int .i64 0] w (Gives w fun v' w'=>OwnQ 115 0 w' v' 0)):=fun w=>by
  have h:=rint_any (w:=w) (u:=0) (by omega)
  have e:((0:Int):Rat)=0:=by decide +kernel
  rw [e] at h
  exact h.mono fun _ _ ⟨v,e,b,o⟩=>⟨v,e,b,o.mono (Nat.zero_le _)⟩
 have HZ1:Hid (∀ w,Calls Tryz.prog 20 #[.int .i64 (-1)] w (Gives w fun v' w'=>OwnQ 115 0 w' v' (-1))):=fun w=>by
  have h:=rint_any (w:=w) (u := -1) (by omega)
  have e:((-1:Int):Rat) = -1:=by decide +kernel
  rw [e] at h
  exact h.mono fun _ _ ⟨v,e,b,o⟩=>⟨v,e,b,o.mono (Nat.zero_le _)⟩
 have HSC:Hid (∀ w' vr v a,OwnQ 115 0 w' vr (-1)→RdX w' v a.1.1 a.1.2→a∈LC l1→badA n0 a=false→Calls Tryz.prog 23 #[vr,v] w' (Gives w' fun v' w''=>∃ m,(Tame ((m,-1*a.1.2),a.2)∧Smx m (-1*a.1.2)∧badA n0 ((m,-1*a.1.2),a.2)=false)∧OwnX 0 w'' v' m (-1*a.1.2))):=fun w' vr v a h1 h2 ha hb=>by
  have zs:=LC_smx a ha
  refine (lscale_any 2 8 8 h1 h2 (Sz.int (-1) (by omega)) zs.2.1 zs.2.2 (by have:=zs.1;omega) (by decide) (by decide)).mono fun _ _ ⟨v,e,b,m,hf,hm,_,hl,o⟩=>⟨v,e,b,m,flip_ok ha hb hf hm hl,o.mono (Nat.zero_le _)⟩
 have NLC:=Lib.hid (LC_len l1)
 have HLZ:Hid (∀ a∈LC l1,Smx a.1.1 a.1.2∧Tame a):=fun a ha=>⟨LC_smx a ha,LC_tame a ha⟩
 obtain ⟨a1,k1,rfl,-,-⟩:=hv1.shape
 obtain ⟨a2,k2,rfl,-,-⟩:=hv2.shape
 obtain ⟨m1,hm1⟩:∃ m,m=l1.length:=⟨_,rfl⟩
 obtain ⟨m2,hm2⟩:∃ m,m=l2.length:=⟨_,rfl⟩
 rw [← hm1] at HCU ⊢
 rw [← hm2] at HON ⊢
 clear hv1 hv2 _hb1 _hb2 hm1 hm2 hP0 hlt hgt _hn1 _hn2
 go_enter Tryz.func5,Tryz.ntmps5
 go_wp2_with fail
 refine HCU.out.mono ?_
 rintro e w1 ⟨u1,rfl,b1,o1⟩
 have O1:=Lib.hid (RdRow.mono o1.rd fun _ _ h=>OwnNA.rd h)
 clear o1 HCU
 go_wp2_with fail
 refine (HON.out _ b1).mono ?_
 rintro e w2 ⟨u2,rfl,b2,o2⟩
 have O2:=Lib.hid o2
 clear o2 HON
 go_wp2_with fail
 refine (HRT.out _ _ O2.out).mono ?_
 rintro e w3 ⟨u3,rfl,b3,o3⟩
 have O3:=Lib.hid o3
 have x23:=Ext.trans b2 b3
 have O1':=Lib.hid (O1.out.ext RdNA.ext b2)
 have x12:=Ext.trans b1 b2
 have hw23:w2.heap.size≤w3.heap.size:=Below.size b3
 clear o3 O1 O2 HRT
 go_wp2_with fail
 go_loopw [7] (fun u wr=>∃ P:List Rat,Hid (OwnRow 3 (OwnQp 115) 49 w2.heap.size wr u P)∧lenV u=P.length∧P.length≤16∧Hid (∀ p∈P,Sz 8 p)∧Hid (Ext w2 wr)) (fun u _=>n0 - lenV u)
 case atStart=>exact ⟨P0,O3.out,by obtain ⟨a,c,rfl,-,-⟩:=O3.out.rd.shape;rfl,by omega,Z0.out,b3⟩
 case round=>
  clear Z0 L0
  obtain ⟨P,hO,hlv,hl16,hZ,hX⟩:=hrel
  obtain ⟨ap,kp,rfl,-,-⟩:=hO.out.rd.shape
  obtain ⟨np,hnp⟩:∃ np,np=P.length:=⟨_,rfl⟩
  have HNP:=Lib.hid hnp
  rw [← hnp] at hO hl16 ⊢
  clear hlv hnp
  by_cases hlt:np < n0
  ·have hd:decide ((np:Int) < (n0:Int))=true:=decide_eq_true (by omega)
   go_wp2_with fail
   refine (HZ0.out _).mono ?_
   rintro e w4 ⟨_,rfl,b4,o4⟩
   obtain ⟨s4,a4,l4,c4,a5,l5,c5,rfl,O4⟩:=o4.op
   have hO4:=Lib.hid (hO.out.ext OwnQ.ext b4)
   have x4:=Ext.trans hX.out b4
   clear o4 hO
   go_wp2_with (at_builtin;refine append_rowL (y:=(0:Rat)) etFr (kdQ (e:=115) (by decide)) (by rfl) _ _ (by rfl) w2.heap.size (by rfl) _ (by rfl) hO4.out rfl O4.out (Below.size x4) (by have:=HNP.out;omega) (by have:=HNP.out;unfold maxLen;omega) ?_;intro v9 w9 o9 b9 g9)
   go_roundw
   case rel=>exact ⟨P ++ [0],o9,by obtain ⟨a,c,rfl,-,-⟩:=o9.rd.shape;rfl,by rw [List.length_append,← HNP.out];simp;omega,fun p hp=>by
    rcases List.mem_append.1 hp with hp | hp
    ·exact hZ.out p hp
    ·obtain rfl:p=0:=by simpa using hp
     exact Sz.zero.le (by decide),Below.trans x4 b9⟩
   case measure=>
    obtain ⟨a,c,rfl,-,-⟩:=o9.rd.shape
    have:=HNP.out
    simp [lenV]
    omega
  ·have hd:decide ((np:Int) < (n0:Int))=false:=decide_eq_false (by omega)
   have AQ:Hid (RdRow 3 (OwnQp 115) wr (.slice ap n0 kp) (P.take n0)):=hO.out.rd.upto (m:=n0) (by omega)
   have ZQ:Hid (∀ p∈P.take n0,Sz 8 p):=fun p hp=>hZ.out p (List.mem_of_mem_take hp)
   have LQ:Hid ((P.take n0).length≤1000):=by show _≤_;rw [List.length_take];omega
   have hkp:n0≤kp:=by
    obtain ⟨a',c',he,hle,-⟩:=hO.out.rd.shape
    simp only [Value.slice.injEq] at he
    have:=HNP.out
    omega
   have hnn:n0≤np:=by omega
   obtain ⟨w4,hw4⟩:∃ w0:World,w0=wr:=⟨_,rfl⟩
   subst hw4
   have x4:=Ext.trans x12 hX.out
   have O4:=Lib.hid (O1'.out.ext RdNA.ext hX.out)
   clear hO hZ HNP O1' O3 x23 hlt hl16
   generalize P.take n0=Q at*
   go_wp2_with fail
   refine (HAT.out _ _ (O4.out.ext RdNA.ext (Ext.alloc _ _))).mono ?_
   rintro e w5 ⟨u5,rfl,b5,o5⟩
   have hH5:Hid (OwnRow 5 OwnA 55 w4.heap.size w5 (.slice (some ⟨w4.heap.size,0,none⟩) 0 0) []):=(OwnRow.nilLit _ (Nat.le_refl _)).ext OwnAt.ext b5
   have hP5:Hid (Apt u5 (.slice (some ⟨w4.heap.size,0,none⟩) 0 0)):=fun g h1 h2=>by
    have h3:=(o5.lt g h1).1
    simp only [Value.ownBlock,Option.some.injEq] at h2
    have h4:(w4.alloc (.cells #[] 55)).heap.size=w4.heap.size+1:=by simp
    omega
   have hA5:Hid (OwnRow 5 OwnA 55 w4.heap.size w5 u5 (LC l1)):=o5.mono (Below.size (Ext.alloc _ _))
   have x45:Ext w4 w5:=Ext.trans (Ext.alloc _ _) b5
   obtain ⟨aa,ka,rfl,-,-⟩:=o5.rd.shape
   clear o5 b5 O4 HAT
   generalize LC l1=A at*
   obtain ⟨nA,hnA⟩:∃ nA,nA=A.length:=⟨_,rfl⟩
   have HNA:=Lib.hid hnA
   have hnA8:nA≤8:=by rw [hnA];exact NLC.out
   rw [← hnA] at hA5 hP5 ⊢
   clear hnA NLC
   go_wp2_with fail
   go_loopw [8,40] (fun h t wr=>∃ (j:Nat) (H:List AT),t=.int .i64 j∧j≤nA∧Ext w4 wr∧Hid (OwnRow 5 OwnA 55 w4.heap.size wr h H)∧Hid (∀ a∈H,Good n0 Q a)∧H.length≤j∧Hid (OwnRow 5 OwnA 55 w4.heap.size wr (.slice aa nA ka) A)∧Hid (Apt (.slice aa nA ka) h)) (fun _ t _=>nA - (intOf t).toNat)
   case atStart=>exact ⟨0,[],rfl,Nat.zero_le _,x45,hH5.out,fun a ha=>(by cases ha),Nat.zero_le _,hA5.out,hP5.out⟩
   case round=>
    clear hH5 hA5 hP5 x45
    obtain ⟨j,H,rfl,hj,hx,hH,hG,hHl,hA,hP⟩:=hrel
    by_cases hjl:j < nA
    ·have hd9:decide ((j:Int) < (nA:Int))=true:=decide_eq_true (by omega)
     have HJ1:IntKind.i64.wrap ((j:Int)+1)=((j+1:Nat):Int):=by rw [IntKind.wrap_i64];omega
     have HJ2:(0:Int)≤(j:Int)∧(j:Int) < (nA:Int):=⟨by omega,by omega⟩
     obtain ⟨bA,oA,xa,xk,xs,xb,xm,xd,xb',xm',xd',hae,hbo,hax⟩:=hA.out.rd.atm j (by rw [← HNA.out];exact hjl)
     subst hae
     obtain ⟨a,ha⟩:∃ a,A[j]'(by rw [← HNA.out];exact hjl)=a:=⟨_,rfl⟩
     have HIN:Hid (a∈A):=by rw [← ha];exact List.getElem_mem _
     rw [ha] at hbo hax
     have HSX:Hid (Smx a.1.1 a.1.2):=(HLZ.out a HIN.out).1
     have HTM:Hid (Tame a):=(HLZ.out a HIN.out).2
     obtain ⟨u0,u1,u2,u3,u4⟩:=hbo.c5
     obtain ⟨w6,hw6,b6,c6,-,-⟩:=bx1 wr [.slice xa a.1.1.length xk,.bool xs,.slice xb xm xd,.slice xb' xm' xd',.int .i64 a.2] 55
     have R6:Hid (Rt w6 wr.heap.size 5 55):=by
      show Rt _ _ _ _
      rw [hw6]
      exact Rt.new wr [.slice xa a.1.1.length xk,.bool xs,.slice xb xm xd,.slice xb' xm' xd',.int .i64 a.2] _
     have HW:=Lib.hid hw6
     have C6:=Lib.hid c6
     have OX6:=Lib.hid (hax.ext b6)
     have HCO:=Lib.hid (chk_one (a:=a) hn6)
     obtain ⟨op,hop⟩:∃ op,a.2=op:=⟨_,rfl⟩
     obtain ⟨ln,hln⟩:∃ ln,a.1.1.length=ln:=⟨_,rfl⟩
     have HOP:=Lib.hid hop
     rw [hop,hln] at HW C6
     rw [hln] at OX6
     rw [hop] at u4
     rw [hln] at u0
     clear ha hbo hax hw6 c6 hop hln
     go_upto_region 11 with (fail)
     rw [← HW.out]
     clear HW u0 u1 u2 u3 u4
     obtain ⟨e6,he6⟩:∃ e,e=wr.heap.size:=⟨_,rfl⟩
     have hwe6:wr.heap.size≤e6:=by omega
     rw [← he6] at C6 R6 ⊢
     clear he6
     have OT6:Hid (OwnA w6 (.agg #[.slice xa ln xk,.bool xs,.slice xb xm xd,.slice xb' xm' xd',.int .i64 op]) a):=⟨_,_,_,_,by rw [HOP.out],OX6.out⟩
     obtain ⟨k0,k1,k2,k3,k4⟩:=C6.out.c5
     go_wp2_with (refine build1W etAw (by rfl) (by rfl) (T:=OwnA) OwnAt.ext (by rfl) [.slice xa ln xk,.bool xs,.slice xb xm xd,.slice xb' xm' xd',.int .i64 op] (fill_a1 ..) rfl (by decide) OT6.out ?_;intro g7 w7 x7 _ l7;have L7:=Lib.hid l7.rd;clear l7)
     refine (HLI.out _ _ a HSX.out L7.out).mono ?_
     rintro e w8 ⟨v8,rfl,b8,o8⟩
     have O8:=Lib.hid o8
     clear o8 L7 k0 k1 k2 k3 k4
     go_wp2_with fail
     refine (HCK.out _ _ a HSX.out O8.out).mono ?_
     rintro e w9 ⟨_,rfl,b9,rfl⟩
     have x69:=Ext.trans x7 (Ext.trans b8 b9)
     clear O8
     by_cases hba:badA n0 a=false
     ·have HBA:=Lib.hid hba
      rw [HCO.out.2 hba]
      clear hba
      go_upto_region 12 with (fail)
      have C9:=Lib.hid (C6.out.ext x69)
      have OT9:=Lib.hid (OwnAt.ext OT6.out x69)
      have hx69:=Ext.trans b6 x69
      have x49:=Ext.trans hx hx69
      have b10:=drew_ext w9
      have XE:=b10
      refine wp_region_noPanic ?_
      refine wp_region_held_drew (S:=fun w'=>w'.cell? ⟨e6,0,none⟩=some (.slice xa ln xk)∧w'.cell? ⟨e6,1,none⟩=some (.bool xs)∧w'.cell? ⟨e6,2,none⟩=some (.slice xb xm xd)∧w'.cell? ⟨e6,3,none⟩=some (.slice xb' xm' xd')∧w'.cell? ⟨e6,4,none⟩=some (.int .i64 op)) (by kernel_rfl) ((C9.out.ext XE).c5) (fun hHeld=>?_)
      refine tkH 0 hHeld ?_
      simp only [jP,jA,jB,jC,jD,jE,jF]
      refine tkH 3 hHeld ?_
      simp only [jP,jA,jB,jC,jD,jE,jF]
      refine tkH 4 hHeld ?_
      simp only [jP,jA,jB,jC,jD,jE,jF]
      refine tkH 5 hHeld ?_
      simp only [jP,jA,jB,jC,jD,jE,jF]
      refine rdH 1 (by kernel_rfl) rfl (fun K hK=>?_)
      refine if_wantedL rfl ?_
      refine build1K etAw (by rfl) (T:=OwnA) OwnAt.ext (by rfl) [.slice xa ln xk,.bool xs,.slice xb xm xd,.slice xb' xm' xd',.int .i64 op] (fill_a1 ..) rfl (by decide) (OwnAt.ext OT9.out XE) ?_
      intro g20 w20 x20 _ l20
      have XE:=Ext.trans XE x20
      have L20:=Lib.hid l20.rd
      clear l20
      refine hK.out _ _ ((C9.out.ext XE).c5) (fun hHeld=>?_)
      clear hK K
      try simp only [jP,jA,jB,jC,jD,jE,jF]
      refine rdH 2 (by kernel_rfl) rfl (fun K hK=>?_)
      go_simp
      go_at_call 12;refine (HLI.out _ _ a HSX.out L20.out).mono ?_;rintro e w11 ⟨v11,rfl,b11,o11⟩;have O11:=Lib.hid o11;clear o11;(first | have XE:=Ext.trans XE b11 | have XE:=Ext.trans (Ext.trans XE (Ext.alloc _ _)) b11)
      go_wp2_with fail
      refine hK.out _ _ ((C9.out.ext XE).c5) (fun hHeld=>?_)
      clear hK K
      try simp only [jP,jA,jB,jC,jD,jE,jF]
      refine rdH 6 (by kernel_rfl) rfl (fun K hK=>?_)
      go_simp
      go_at_call 22;refine (HNU.out _ _ Q ZQ.out LQ.out (AQ.out.ext OwnQ.ext (Ext.trans x49 XE))).mono ?_;rintro e w12 ⟨v12,rfl,b12,o12⟩;have O12:=Lib.hid o12;clear o12;(first | have XE:=Ext.trans XE b12 | have XE:=Ext.trans (Ext.trans XE (Ext.alloc _ _)) b12)
      go_wp2_with fail
      refine hK.out _ _ ((C9.out.ext XE).c5) (fun hHeld=>?_)
      clear hK K
      try simp only [jP,jA,jB,jC,jD,jE,jF]
      refine rdH 7 (by kernel_rfl) rfl (fun K hK=>?_)
      go_simp
      go_at_call 21;refine (HAL.out _ _ _ a Q HSX.out (bad_op HBA.out) ZQ.out (O11.out.ext OwnBt.ext b12) O12.out).mono ?_;rintro e w13 ⟨_,rfl,b13,rfl⟩;(first | have XE:=Ext.trans XE b13 | have XE:=Ext.trans (Ext.trans XE (Ext.alloc _ _)) b13)
      go_wp2_with fail
      refine hK.out _ _ ((C9.out.ext XE).c5) (fun hHeld=>?_)
      clear hK K
      try simp only [jP,jA,jB,jC,jD,jE,jF]
      refine wpAnyH_done (by kernel_rfl) ?_ _
      refine NoPanic.normal ?_
      have x9:=Ext.trans hx69 XE
      have C13:=Lib.hid (C9.out.ext XE)
      have OT13:=Lib.hid (OwnAt.ext OT9.out XE)
      have HGO:Hid (says a.2 (av Q a)=true→Good n0 Q a):=fun h=>⟨HTM.out,HSX.out,HBA.out,h⟩
      have R13:=Lib.hid (R6.out.ext (Ext.trans x69 XE))
      have OX13:=Lib.hid (OX6.out.ext (Ext.trans x69 XE))
      generalize says a.2 (av Q a)=sb at*
      cases sb with
      | true=>
       as_aux_lemma=>
        have HGA:=Lib.hid (HGO.out rfl)
        obtain ⟨k0,k1,k2,k3,k4⟩:=C13.out.c5
        clear C9 OT9 OX13 OX6 OT6 HGO HCO HIN HTM HSX HBA hHeld
        go_upto_region 13 with (fail)
        have XX:=Lib.hid (x9)
        have hH9:=Lib.hid (hH.out.ext OwnAt.ext XX.out)
        have hA9:=Lib.hid (hA.out.ext OwnAt.ext XX.out)
        have hx9:=Ext.trans hx XX.out
        have HG9:=Lib.hid (good_snoc hG.out HGA.out)
        clear hH hA hG
        go_wp2_with (refine build1W etAw (by rfl) (by rfl) (T:=OwnA) OwnAt.ext (by rfl) [.slice xa ln xk,.bool xs,.slice xb xm xd,.slice xb' xm' xd',.int .i64 op] (fill_a1 ..) rfl (by decide) OT13.out ?_;intro g30 w30 x30 _ l30;refine append_rowGL etAw (kdAt (by decide) (by decide)) (by rfl) _ _ (by rfl) w4.heap.size (by rfl) (hH9.out.ext OwnAt.ext x30) (by rfl) l30.rd (by omega) (by unfold maxLen;omega) (Below.size (Ext.trans hx9 x30)) ?_;intro v31 w31 o31 b31 g31 h31)
        go_roundw
        case rel=>exact ⟨j+1,_,by go_num,by omega,Below.trans (Ext.trans hx9 x30) b31,o31,HG9.out,by rw [List.length_append];simp;omega,(hA9.out.ext OwnAt.ext x30).apart hP.out g31 (fun v a h=>by
         obtain ⟨nn,xs,hE⟩:=(hH9.out.ext OwnAt.ext x30).own
         exact (kdAt (by decide) (by decide)).grown h hE g31),Apt.grown hP.out h31 fun k hk=>((hA9.out.ext OwnAt.ext x30).lt k hk).2⟩
        case measure=>simp [intOf] <;> omega
      | false=>
       as_aux_lemma=>
        clear C9 OT9 HGO hHeld OT13 OT6 OX6
        go_upto_region 14 with (fail)
        have b14:=drew_ext w13
        have XE:=b14
        refine wp_region_noPanic ?_
        refine wp_region_last_drew (st:=5) (S:=fun w'=>w'.cell? ⟨e6,0,none⟩=some (.slice xa ln xk)∧w'.cell? ⟨e6,1,none⟩=some (.bool xs)∧w'.cell? ⟨e6,2,none⟩=some (.slice xb xm xd)∧w'.cell? ⟨e6,3,none⟩=some (.slice xb' xm' xd')∧w'.cell? ⟨e6,4,none⟩=some (.int .i64 op)) (by kernel_rfl) ((C13.out.ext XE).c5) (fun hHeld=>?_)
        refine tkL 1 hHeld ?_
        simp only [jP,jA,jB,jC,jD,jE,jF]
        refine tkL 2 hHeld ?_
        simp only [jP,jA,jB,jC,jD,jE,jF]
        refine rdL 0 (by kernel_rfl) rfl (fun K hK=>?_)
        go_simp
        go_at_call 20;refine (HZ1.out _).mono ?_;rintro e w15 ⟨v15,rfl,b15,o15⟩;have O15:=Lib.hid o15;clear o15;(first | have XE:=Ext.trans XE b15 | have XE:=Ext.trans (Ext.trans XE (Ext.alloc _ _)) b15);obtain ⟨s15,a15,l15,c15,b15',m15,d15,rfl,Q15⟩:=O15.out.op
        go_wp2_with fail
        refine hK.out _ _ ((C13.out.ext XE).c5) (fun hHeld=>?_)
        clear hK K
        try simp only [jP,jA,jB,jC,jD,jE,jF]
        refine rdL 3 (by kernel_rfl) rfl (fun K hK=>?_)
        go_simp
        go_at_call 23;refine (HSC.out _ _ _ a Q15.out (OwnEx.rd (OX13.out.ext XE)) HIN.out HBA.out).mono ?_;rintro e w16 ⟨v16,rfl,b16,o16⟩;have O16:=Lib.hid o16;clear o16;(first | have XE:=Ext.trans XE b16 | have XE:=Ext.trans (Ext.trans XE (Ext.alloc _ _)) b16);obtain ⟨m,hm3,om⟩:=O16.out;obtain ⟨fa,fk,fs,fb,fm,fd,fb',fm',fd',rfl,-,-,OM⟩:=om.op;have HM3:=Lib.hid hm3;clear hm3 om;obtain ⟨mn,hmn⟩:∃ mn,mn=m.length:=⟨_,rfl⟩;rw [← hmn] at OM ⊢;clear hmn
        go_wp2_with fail
        refine hK.out _ _ ((C13.out.ext XE).c5) (fun hHeld=>?_)
        clear hK K
        try simp only [jP,jA,jB,jC,jD,jE,jF]
        refine tkL 4 hHeld ?_
        simp only [jP,jA,jB,jC,jD,jE,jF]
        obtain ⟨_,_,_,_,_,j0,j1,j2,j3,j4,i0,i1,i2,i3,i4⟩:=(R13.out.ext XE).c5
        refine wpAnyL_ready (rs:=[5]) (by kernel_rfl) (by simp) ?_
        refine AllReadyL.last (o:=_) rfl (fun K hK=>?_)
        go_simp
        refine hK.out _ _ ?_
        clear hK K
        try simp only [jP,jA,jB,jC,jD,jE,jF]
        refine wpAnyL_done (by kernel_rfl) ?_ _
        refine NoPanic.normal ?_
        obtain ⟨w17,hw17,b17,hC17,hR17,hO17⟩:=meetA (op:=a.2) (x4:=.int .i64 op) (by rw [HOP.out]) (R13.out.ext XE) (Ext.trans x9 XE) hwe6 (C13.out.ext XE) OM.out
        rw [← hw17]
        clear hw17 C13 R13 OX13 OM j0 j1 j2 j3 j4 i0 i1 i2 i3 i4 R6 C6
        go_upto_region 15 with (fail)
        have b18:=drew_ext w17
        have XE:=b18
        refine wp_region_noPanic ?_
        refine wp_region_held_drew (S:=fun w'=>w'.cell? ⟨e6,0,none⟩=some (.slice fa mn fk)∧w'.cell? ⟨e6,1,none⟩=some (.bool fs)∧w'.cell? ⟨e6,2,none⟩=some (.slice fb fm fd)∧w'.cell? ⟨e6,3,none⟩=some (.slice fb' fm' fd')∧w'.cell? ⟨e6,4,none⟩=some (.int .i64 op)) (by kernel_rfl) ((hC17.out.ext XE).c5) (fun hHeld=>?_)
        refine tkH 0 hHeld ?_
        simp only [jP,jA,jB,jC,jD,jE,jF]
        refine tkH 3 hHeld ?_
        simp only [jP,jA,jB,jC,jD,jE,jF]
        refine tkH 4 hHeld ?_
        simp only [jP,jA,jB,jC,jD,jE,jF]
        refine tkH 5 hHeld ?_
        simp only [jP,jA,jB,jC,jD,jE,jF]
        refine rdH 1 (by kernel_rfl) rfl (fun K hK=>?_)
        refine if_wantedL rfl ?_
        refine build1K etAw (by rfl) (T:=OwnA) OwnAt.ext (by rfl) [.slice fa mn fk,.bool fs,.slice fb fm fd,.slice fb' fm' fd',.int .i64 op] (fill_a1 ..) rfl (by decide) (OwnAt.ext hO17.out XE) ?_
        intro g20 w20 x20 _ l20
        have XE:=Ext.trans XE x20
        have L20:=Lib.hid l20.rd
        clear l20
        refine hK.out _ _ ((hC17.out.ext XE).c5) (fun hHeld=>?_)
        clear hK K
        try simp only [jP,jA,jB,jC,jD,jE,jF]
        refine rdH 2 (by kernel_rfl) rfl (fun K hK=>?_)
        go_simp
        go_at_call 12;refine (HLI.out _ _ ((m,-1*a.1.2),a.2) HM3.out.2.1 L20.out).mono ?_;rintro e w19 ⟨v19,rfl,b19,o19⟩;have O19:=Lib.hid o19;clear o19;(first | have XE:=Ext.trans XE b19 | have XE:=Ext.trans (Ext.trans XE (Ext.alloc _ _)) b19)
        go_wp2_with fail
        refine hK.out _ _ ((hC17.out.ext XE).c5) (fun hHeld=>?_)
        clear hK K
        try simp only [jP,jA,jB,jC,jD,jE,jF]
        refine rdH 6 (by kernel_rfl) rfl (fun K hK=>?_)
        go_simp
        go_at_call 22;refine (HNU.out _ _ Q ZQ.out LQ.out (AQ.out.ext OwnQ.ext (Ext.trans hx (Ext.trans b17 XE)))).mono ?_;rintro e w20 ⟨v20,rfl,b20,o20⟩;have O20:=Lib.hid o20;clear o20;(first | have XE:=Ext.trans XE b20 | have XE:=Ext.trans (Ext.trans XE (Ext.alloc _ _)) b20)
        go_wp2_with fail
        refine hK.out _ _ ((hC17.out.ext XE).c5) (fun hHeld=>?_)
        clear hK K
        try simp only [jP,jA,jB,jC,jD,jE,jF]
        refine rdH 7 (by kernel_rfl) rfl (fun K hK=>?_)
        go_simp
        go_at_call 21;refine (HAL.out _ _ _ ((m,-1*a.1.2),a.2) Q HM3.out.2.1 (bad_op HM3.out.2.2) ZQ.out (O19.out.ext OwnBt.ext b20) O20.out).mono ?_;rintro e w21 ⟨_,rfl,b21,rfl⟩;(first | have XE:=Ext.trans XE b21 | have XE:=Ext.trans (Ext.trans XE (Ext.alloc _ _)) b21)
        go_wp2_with fail
        refine hK.out _ _ ((hC17.out.ext XE).c5) (fun hHeld=>?_)
        clear hK K
        try simp only [jP,jA,jB,jC,jD,jE,jF]
        refine wpAnyH_done (by kernel_rfl) ?_ _
        refine NoPanic.normal ?_
        have x17:=Ext.trans b17 XE
        have C21:=Lib.hid (hC17.out.ext XE)
        have OT21:=Lib.hid (OwnAt.ext hO17.out XE)
        have HGO:Hid (says a.2 (av Q ((m,-1*a.1.2),a.2))=true→Good n0 Q ((m,-1*a.1.2),a.2)):=fun h=>⟨HM3.out.1,HM3.out.2.1,HM3.out.2.2,h⟩
        generalize says a.2 (av Q ((m,-1*a.1.2),a.2))=sb at*
        cases sb with
        | true=>
         have HGA:=Lib.hid (HGO.out rfl)
         obtain ⟨k0,k1,k2,k3,k4⟩:=C21.out.c5
         clear hHeld HGO hC17 hO17 HM3 HCO HIN HTM HSX HBA
         go_upto_region 16 with (fail)
         have XX:=Lib.hid (x17)
         have hH9:=Lib.hid (hH.out.ext OwnAt.ext XX.out)
         have hA9:=Lib.hid (hA.out.ext OwnAt.ext XX.out)
         have hx9:=Ext.trans hx XX.out
         have HG9:=Lib.hid (good_snoc hG.out HGA.out)
         clear hH hA hG
         go_wp2_with (refine build1W etAw (by rfl) (by rfl) (T:=OwnA) OwnAt.ext (by rfl) [.slice fa mn fk,.bool fs,.slice fb fm fd,.slice fb' fm' fd',.int .i64 op] (fill_a1 ..) rfl (by decide) OT21.out ?_;intro g30 w30 x30 _ l30;refine append_rowGL etAw (kdAt (by decide) (by decide)) (by rfl) _ _ (by rfl) w4.heap.size (by rfl) (hH9.out.ext OwnAt.ext x30) (by rfl) l30.rd (by omega) (by unfold maxLen;omega) (Below.size (Ext.trans hx9 x30)) ?_;intro v31 w31 o31 b31 g31 h31)
         go_roundw
         case rel=>exact ⟨j+1,_,by go_num,by omega,Below.trans (Ext.trans hx9 x30) b31,o31,HG9.out,by rw [List.length_append];simp;omega,(hA9.out.ext OwnAt.ext x30).apart hP.out g31 (fun v a h=>by
          obtain ⟨nn,xs,hE⟩:=(hH9.out.ext OwnAt.ext x30).own
          exact (kdAt (by decide) (by decide)).grown h hE g31),Apt.grown hP.out h31 fun k hk=>((hA9.out.ext OwnAt.ext x30).lt k hk).2⟩
         case measure=>simp [intOf] <;> omega
        | false=>
         clear hHeld HGO hC17 hO17 HM3
         go_wp2_with fail
         go_roundw
         case rel=>exact ⟨j+1,H,by go_num,by omega,Ext.trans hx x17,hH.out.ext OwnAt.ext x17,hG,by omega,hA.out.ext OwnAt.ext x17,hP.out⟩
         case measure=>simp [intOf] <;> omega
     ·have hbb:(chkS n0 [a] != 0)=true:=bneT fun h=>hba (HCO.out.1 h)
      generalize chkS n0 [a]=cc at*
      clear hba
      go_wp2_with fail
      go_roundw
      case rel=>exact ⟨j+1,H,by go_num,by omega,Ext.trans hx (Ext.trans b6 x69),hH.out.ext OwnAt.ext (Ext.trans b6 x69),hG,by omega,hA.out.ext OwnAt.ext (Ext.trans b6 x69),hP.out⟩
      case measure=>simp [intOf] <;> omega
    ·have hd9:decide ((j:Int) < (nA:Int))=false:=decide_eq_false (by omega)
     obtain ⟨ah,kh,he,-,-⟩:=hH.out.rd.shape
     subst he
     have hH8:H.length≤8:=by omega
     have HS1:Hid (∀ w' v,RdRow 5 OwnA w' v H→Calls Tryz.prog 14 #[.int .i64 n0,v] w' (Gives w' fun v' w''=>∃ f P T,SolW n0 H w'.heap.size w'' v' f P T∧f=true∧chkS n0 H=0)):=fun w' v h=>(solve_w h (fun a ha=>⟨by have:=(hG.out a ha).2.1.1;omega,fun t ht=>((hG.out a ha).2.1.2.1 t ht).le (by decide)⟩) (fun a ha=>(hG.out a ha).1) (.inl hH8)).mono fun _ _ ⟨v,e,b,f,P,T,h1,h2⟩=>⟨v,e,b,f,P,T,h1,find_yes hn6 (by omega) hG.out h2,good_chk hn6 (by omega) hG.out⟩
     have HS2:Hid (∀ w' v,RdRow 5 OwnA w' v (H ++ [nvA])→Calls Tryz.prog 14 #[.int .i64 n0,v] w' (Gives w' fun v' w''=>∃ f P T,SolW n0 (H ++ [nvA]) w'.heap.size w'' v' f P T∧f=false∧chkS n0 (H ++ [nvA])=0)):=fun w' v h=>(solve_w h (fun a ha=>by
       rcases List.mem_append.1 ha with ha | ha
       ·exact ⟨by have:=(hG.out a ha).2.1.1;omega,fun t ht=>((hG.out a ha).2.1.2.1 t ht).le (by decide)⟩
       ·obtain rfl:a=nvA:=by simpa using ha
        exact ⟨by decide,fun t ht=>(by cases ht)⟩) (fun a ha=>by
       rcases List.mem_append.1 ha with ha | ha
       ·exact (hG.out a ha).1
       ·obtain rfl:a=nvA:=by simpa using ha
        exact nv_tame) (.inr (by omega))).mono fun _ _ ⟨v,e,b,f,P,T,h1,h2⟩=>⟨v,e,b,f,P,T,h1,find_no hn6 (by omega) hG.out h2,nv_chk hn6 (by omega) hG.out⟩
     have HI1:Hid (∀ w,Calls Tryz.prog 20 #[.int .i64 1] w (Gives w fun v' w'=>OwnQ 115 0 w' v' ((1:Int):Rat))):=fun w=>(rint_any (by omega)).mono fun _ _ ⟨v,e,b,o⟩=>⟨v,e,b,o.mono (Nat.zero_le _)⟩
     have HOF:Hid (∀ w v,OwnQ 115 0 w v ((1:Int):Rat)→Calls Tryz.prog 24 #[v] w (Gives w fun v' w'=>OwnX 0 w' v' [] ((1:Int):Rat))):=fun w v h=>(lof_any h).mono fun _ _ ⟨v,e,b,o⟩=>⟨v,e,b,o.mono (Nat.zero_le _)⟩
     have HNV:Hid (∀ w x0 x1 x2 x3,OwnX 0 w (.agg #[x0,x1,x2,x3]) [] ((1:Int):Rat)→OwnA w (.agg #[x0,x1,x2,x3,.int .i64 1]) nvA):=fun w x0 x1 x2 x3 h=>⟨_,_,_,_,rfl,h⟩
     have HH:=Lib.hid hH.out.rd
     have HHL:Hid (H.length≤8):=hH8
     have hxw:=Ext.trans x4 hx
     clear HSC HLZ HNA HLI HCK HAL HNU HZ0 HZ1 ZQ LQ AQ hA hP hG hH hHl hH8
     generalize ((1:Int):Rat)=q1 at*
     generalize nvA=nv at*
     obtain ⟨nH,hnH⟩:∃ nH,nH=H.length:=⟨_,rfl⟩
     rw [← hnH] at HH ⊢
     clear hnH
     go_wp2_with fail
     refine (HS1.out _ _ HH.out).mono ?_
     rintro e w6 ⟨_,rfl,b6,f,P',T',⟨vp,vt,rfl,op,ot⟩,rfl,hc1⟩
     rw [hc1]
     obtain ⟨ap',kp',rfl,-,-⟩:=op.rd.shape
     obtain ⟨at7,kt,rfl,-,-⟩:=ot.rd.shape
     generalize P'.length=np' at*
     generalize T'.length=nt at*
     clear op ot hc1
     obtain ⟨w7,hw7,b7,c7,-,-⟩:=bx1 w6 [.bool true,.slice ap' np' kp',.slice at7 nt kt] 35
     have HW:=Lib.hid hw7
     have C7:=Lib.hid c7
     have x7:=Ext.trans b6 b7
     clear hw7 c7
     go_upto_region 19 with (fail)
     rw [← HW.out]
     clear HW
     obtain ⟨e7,he7⟩:∃ e,e=w6.heap.size:=⟨_,rfl⟩
     rw [← he7] at C7 ⊢
     clear he7
     have H7:=Lib.hid (HH.out.ext OwnAt.ext x7)
     have HNI:Hid (OwnRow 5 OwnA 55 w7.heap.size (w7.alloc (.cells #[] 55)) (.slice (some ⟨w7.heap.size,0,none⟩) 0 0) []):=OwnRow.nilLit _ (Nat.le_refl _)
     go_wp2_with (at_builtin;refine append_rowAL (l:=[]) (m:=H) etAw (kdAt (by decide) (by decide)) (by rfl) _ _ (by rfl) w7.heap.size (by rfl) HNI.out (by rfl) (H7.out.ext OwnAt.ext (Ext.alloc _ _)) (by have:=HHL.out;simp;omega) (by have:=HHL.out;unfold maxLen;simp;omega) (Below.size (Ext.alloc _ _)) ?_;intro v8 w8 o8 b8 g8;have X8:Hid (Ext w7 w8):=(Below.trans (Ext.alloc _ _) b8);have O8:Hid (OwnRow 5 OwnA 55 w7.heap.size w8 v8 H):=(by rw [List.nil_append] at o8;exact o8);clear o8 g8 b8)
     refine (HI1.out _).mono ?_
     rintro e w9 ⟨_,rfl,b9,o9⟩
     obtain ⟨s9,a9,l9,c9,a10,l10,c10,rfl,Q9⟩:=o9.op
     clear o9 HNI H7
     go_wp2_with fail
     refine (HOF.out _ _ Q9.out).mono ?_
     rintro e w10 ⟨_,rfl,b10,o10⟩
     obtain ⟨fa,fk,fs,fb,fm,fd,fb',fm',fd',rfl,-,-,OM⟩:=o10.op
     have O10:=Lib.hid (O8.out.ext OwnAt.ext (Ext.trans b9 b10))
     have X10:=Lib.hid (Ext.trans X8.out (Ext.trans b9 b10))
     have OV:=Lib.hid (HNV.out _ _ _ _ _ OM.out)
     clear o10 O8 X8 Q9 OM
     generalize List.length ([]:TL)=z0 at*
     go_upto_region 20 with (refine build1W etAw (by rfl) (by rfl) (T:=OwnA) OwnAt.ext (by rfl) [.slice fa z0 fk,.bool fs,.slice fb fm fd,.slice fb' fm' fd',.int .i64 1] (fill_a1 ..) rfl (by decide) OV.out ?_;intro g11 w11 x11 _ l11;refine append_rowGL etAw (kdAt (by decide) (by decide)) (by rfl) _ _ (by rfl) w7.heap.size (by rfl) (O10.out.ext OwnAt.ext x11) (by rfl) l11.rd (by have:=HHL.out;omega) (by have:=HHL.out;unfold maxLen;omega) (Below.size (Ext.trans X10.out x11)) ?_;intro v12 w12 o12 b12 g12 _;have X12:=Lib.hid (Below.trans (Ext.trans X10.out x11) b12);have O12:=Lib.hid o12.rd;clear o12 g12 b12 x11 l11)
     have C12:=Lib.hid (C7.out.ext X12.out)
     have x12':=Ext.trans hxw (Ext.trans x7 X12.out)
     go_wp2_with fail
     refine (HS2.out _ _ O12.out).mono ?_
     rintro e w13 ⟨_,rfl,b13,f',P'',T'',⟨vp',vt',rfl,op,ot⟩,rfl,hc2⟩
     rw [hc2]
     obtain ⟨ap'',kp'',rfl,-,-⟩:=op.rd.shape
     obtain ⟨at13,kt',rfl,-,-⟩:=ot.rd.shape
     generalize P''.length=np'' at*
     generalize T''.length=nt' at*
     clear op ot hc2 O12 X12 C7
     obtain ⟨w14,hw14,b14,c14,-,-⟩:=bx1 w13 [.bool false,.slice ap'' np'' kp'',.slice at13 nt' kt'] 35
     have HW:=Lib.hid hw14
     have D14:=Lib.hid c14
     have x1214:=Ext.trans b13 b14
     have C14:=Lib.hid (C12.out.ext x1214)
     have x14:=Ext.trans x12' x1214
     clear hw14 c14 C12
     go_upto_region 21 with (fail)
     rw [← HW.out]
     clear HW
     obtain ⟨e14,he14⟩:∃ e,e=w13.heap.size:=⟨_,rfl⟩
     rw [← he14] at D14 ⊢
     clear he14
     go_wp2_with fail
     refine awake21.mono ?_
     rintro e w15 ⟨_,rfl,b15,rfl⟩
     obtain ⟨k0,-,-⟩:=(C14.out.ext b15).c3
     obtain ⟨l0,-,-⟩:=(D14.out.ext b15).c3
     go_wp2_with fail
     exact hR.out _ _ (Gives.mk (Ext.trans x14 b15) rfl)
theorem own:ownKnob Tryz.prog.godebug=none:=by kernel_rfl
theorem laidOut:laidOutB Tryz.prog=true:=by kernel_rfl

set_option maxRecDepth 100000 in
theorem contract (H:Type) (enc:TypeId × Value→H) (W:World) (base:Nat) (args:Array Value) (ds gs:List (DataW H)) (before:List MemPlace)
  (hval:∀ (j:Nat) t v,Tryz.f5.params[j]?=some t→args[j]?=some v→Value.okWide Tryz.prog W .any base t v)
  (hW:DataW.Whole enc Tryz.prog Tryz.f5.params.toList Rows.simplexFindsSpec.vars false W args.toList ds gs before) (hk:Rows.uptoSmall H (ds ++ gs)=true):
  Calls Tryz.prog 5 args W fun e W'=>∃ v,e=.returned v∧Rows.simplexFindsSpec.post enc Tryz.prog Tryz.f5 false true false false W args v W':=by
 have hW':=hW
 obtain ⟨p,q,hA0,hV,rfl,hfz,hnd⟩:=hW
 have hA:DataW.TrodAll enc Tryz.prog W 0 (fun _=>true) true Tryz.f5.params.toList args.toList ds p:=hA0
 rw [Tryz.params5] at hA hval
 obtain ⟨v0,vs0,d0,ds0,p0,q0,hargs,rfl,rfl,h0,r0⟩:=trodAll_cons hA
 obtain ⟨v1,vs1,d1,ds1,p1,q1,rfl,rfl,rfl,h1,r1⟩:=trodAll_cons r0
 obtain ⟨v2,vs2,d2,ds2,p2,q2,rfl,rfl,rfl,h2,r2⟩:=trodAll_cons r1
 obtain ⟨rfl,rfl,rfl⟩:=trodAll_nil r2
 obtain rfl:args=#[v0,v1,v2]:=by cases args;simp_all
 obtain ⟨rfl,rfl⟩:=trodVars_none hV
 have hb:=bulk_small hk
 simp only [List.append_nil,bulk_cons,bulk_nil] at hb
 obtain ⟨a0,rfl,rfl,rfl,wf0⟩:=open_int Tryz.underlying3 (hval 0 3 v0 rfl rfl) h0
 have k1:=h1
 have lt1:∀ x∈p1,x.block < W.heap.size:=by obtain ⟨m,hm⟩:=k1;exact DataW.trod_lt m _ _ _ hm
 obtain ⟨l1,rd1,bd1,len1⟩:=open_rowA Tryz.underlying22 (hval 1 22 v1 rfl rfl) h1
 have k2:=h2
 have lt2:∀ x∈p2,x.block < W.heap.size:=by obtain ⟨m,hm⟩:=k2;exact DataW.trod_lt m _ _ _ hm
 obtain ⟨l2,rd2,bd2,len2⟩:=open_rowN Tryz.underlying44 (hval 2 44 v2 rfl rfl) h2
 clear hA0
 refine (walk (wf_int wf0) rd1 (fun p hp=>by have:=bd1 p hp;omega) (by omega) rd2 (fun p hp=>by have:=bd2 p hp;omega) (by omega)).mono fun e W' ⟨v,he,bel,hv⟩=>?_
 subst he hv
 exact ⟨_,rfl,_,_,_,[],_,[],hW',trodAll_mk1 (shut_bool Tryz.underlying4 _),(trodAll_cons_mk (shut_int Tryz.underlying3 wf0) (trodAll_cons_mk (Below.trod laidOut (by kernel_rfl) (of_decide_eq_true (by kernel_rfl)) k1 bel lt1) (trodAll_cons_mk (Below.trod laidOut (by kernel_rfl) (of_decide_eq_true (by kernel_rfl)) k2 bel lt2) trodAll_mk0))),rfl,bel.frame _,fun h=>by cases h⟩

set_option maxRecDepth 100000 in
theorem lifted (os:Os) (started:os.Started) (H:Type) (enc:TypeId × Value→H) (F:Stop.Interp):
  ReturnsInHanded {} Tryz.checked os 5 .any ((Rows.OpenSpec.upto Rows.simplexFindsSpec).pre6 enc Tryz.prog Tryz.f5 Rows.simplexFindsUptoRow.domain false) (((Rows.OpenSpec.upto Rows.simplexFindsSpec).at F).post enc Tryz.prog Tryz.f5 false true false false):=by
 refine returnsInHanded_of_cond (C:=Tryz.checked) (s:=Rows.OpenSpec.upto Rows.simplexFindsSpec) (k:=Rows.uptoSmall) rfl own started (by kernel_rfl) Tryz.func5
  (OpenSpec.witness (enc:=enc) (C:=Tryz.checked) (s:=Rows.OpenSpec.upto Rows.simplexFindsSpec) (k:=Rows.uptoSmall) rfl false ⟨#[],#[.int .i64 0,.slice none 0 0,.slice none 0 0],[]⟩ 8 (by kernel_rfl) (by kernel_rfl) (by kernel_rfl)
   (x:=([.lit (.int .i64 0),.nil,.nil],[],[])) (by kernel_rfl) rfl (by kernel_rfl)) ?_
 intro W base args ds gs before hval hW _ hk _
 exact contract H enc W base args ds gs before hval hW hk

theorem proved:Rows.SimplexFindsUptoSaid:=
 OpenClaim.holds_of_cond 5 Tryz.f5 rfl rfl rfl rfl rfl rfl rfl ⟨rfl,rfl,rfl,rfl,rfl⟩ rfl rfl rfl rfl rfl (by kernel_rfl) Tryz.func5 (by kernel_rfl)
  (of_decide_eq_true (by kernel_rfl)) (by unfold Func.isWrapper;first | (rw [if_pos (by decide +kernel)];kernel_rfl) | (rw [if_neg (by decide +kernel)];exact ⟨rfl,rfl⟩))
  (fun os started H enc _ F=>lifted os started H enc F)
#print axioms proved

end Go.Proofs.YthpaifdfafjlcaaGreat.simplexFinds
