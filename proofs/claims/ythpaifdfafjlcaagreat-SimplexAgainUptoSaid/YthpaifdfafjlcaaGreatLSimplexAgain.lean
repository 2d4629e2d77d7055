/- SimplexAgain: the same call gets the same answer, whatever is asked between, and what is handed in stays as it is. Conditions: the arguments hold together at most 1048576 values (the second form, Upto). -/
import Derived.Test.YthpaifdfafjlcaaGreatSq
import Derived.Test.YthpaifdfafjlcaaGreatSolAll
import Derived.Test.YthpaifdfafjlcaaGreatFrameAll
import Derived.Test.YthpaifdfafjlcaaGreatPAwake21
namespace Go.Proofs.YthpaifdfafjlcaaGreat.simplexAgain
open Go.ChangeShapes Go.WideShapes Go.ChangeAt Go.RowKit Go.Att

theorem solF_sz {n:Int} {l:List NAT} {f:Bool} {P T:List Rat} (h:SolF n (LC l) f P T):(∀ p∈P,Sz 400 p)∧(∀ p∈T,Sz 400 p)∧P.length≤400∧T.length≤400:=by
 rcases h with ⟨-,-,rfl,rfl⟩ | ⟨hc,n0,rfl,h⟩
 ·exact ⟨fun p hp=>(by cases hp),fun p hp=>(by cases hp),Nat.zero_le _,Nat.zero_le _⟩
 ·obtain ⟨h1,h2⟩:=sol_sz LC_tame (.inl (LC_len l)) h
  obtain ⟨h3,h4⟩:=sol_len h
  obtain ⟨-,-,h5,-⟩:=chk_op hc
  have:=LC_len l
  exact ⟨h1,fun p hp=>(h2 p hp).le (by decide),by omega,by omega⟩
theorem solF_one {n:Int} {L:List AT} {f:Bool} {P T:List Rat} (h:SolF n L f P T):P.length=0∨T.length=0:=by
 rcases h with ⟨-,-,rfl,rfl⟩ | ⟨hc,n0,rfl,h⟩
 ·exact .inl rfl
 ·cases f with
  | true=>exact .inr (by rw [(sol_yes hc h).1];rfl)
  | false=>exact .inl (by rw [(sol_no hc h).1];rfl)
set_option maxHeartbeats 20000000 in
set_option maxRecDepth 100000 in
set_option linter.unusedSimpArgs false in
theorem walk {w:World} {n:Int} (_hn : -9223372036854775808≤n∧n≤9223372036854775807) {v1 v2:Value} {l1 l2:List NAT} (hv1:RdRow 5 RdNA w v1 l1) (_hb1:∀ p∈l1,bA p≤1048576) (_hn1:l1.length≤1048576) (hv2:RdRow 5 RdNA w v2 l2) (_hb2:∀ p∈l2,bA p≤1048576) (_hn2:l2.length≤1048576):
  Calls Tryz.prog 7 #[.int .i64 n,v1,v2] w (Gives w fun v' _=>v'=.bool true):=by
 refine via fun R hR=>?_
 have HCU:Hid (∀ w' v l,RdRow 5 RdNA w' v l→Calls Tryz.prog 13 #[v] w' (Gives w' fun v' w''=>OwnRow 5 OwnCa 77 w'.heap.size w'' v' (cutL l))):=fun w' v l h=>cut21_any h
 have HAT:Hid (∀ w' v l,RdRow 5 RdNA w' v (cutL l)→Calls Tryz.prog 10 #[v] w' (Gives w' fun v' w''=>OwnRow 5 OwnA 55 w'.heap.size w'' v' (LC l))):=fun w' v l h=>atoms_cut h
 have HSO:Hid (∀ w' v l,RdRow 5 OwnA w' v (LC l)→Calls Tryz.prog 14 #[.int .i64 n,v] w' (Gives w' fun v' w''=>∃ f P T,SolW n (LC l) w'.heap.size w'' v' f P T∧SolF n (LC l) f P T)):=fun w' v l h=>solve_cut h
 have HUN:Hid (∀ f P T f' P' T',SolF n (LC l1) f P T→SolF n (LC l1) f' P' T'→f=f'∧P=P'∧T=T'):=fun f P T f' P' T' h h'=>h.uniq h'
 have HZS:Hid (∀ f P T,SolF n (LC l1) f P T→(∀ p∈P,Sz 400 p)∧(∀ p∈T,Sz 400 p)∧P.length≤400∧T.length≤400):=fun f P T h=>solF_sz h
 have HON:Hid (∀ f P T,SolF n (LC l1) f P T→P.length=0∨T.length=0):=fun f P T h=>solF_one h
 have HTO:Hid (∀ w' f vp vt P T,(∀ p∈P,Sz 400 p)→(∀ p∈T,Sz 400 p)→P.length≤400→T.length≤400→RdRow 3 (OwnQp 115) w' vp P→RdRow 3 (OwnQp 115) w' vt T→Calls Tryz.prog 16 #[.agg #[.bool f,vp,vt]] w' (Gives w' fun v' w'=>∃ x y,v'=.agg #[.bool f,x,y]∧RdRow 3 (OwnPp 4) w' x P∧RdRow 3 (OwnPp 4) w' y T)):=fun w' f vp vt P T z1 z2 z3 z4 h1 h2=>
  told21_any (RdRow.mono h1 fun _ _ h=>OwnQ.rd h) (RdRow.mono h2 fun _ _ h=>OwnQ.rd h) (fun p hp=>(z1 p hp).le (by decide)) (fun p hp=>(z2 p hp).le (by decide)) (by omega) (by omega)
 have HSA:Hid (∀ w' f x y x' y' P T,(∀ p∈P,Sz 400 p)→(∀ p∈T,Sz 400 p)→P.length≤400→T.length≤400→RdRow 3 (OwnPp 4) w' x P→RdRow 3 (OwnPp 4) w' y T→RdRow 3 (OwnPp 4) w' x' P→RdRow 3 (OwnPp 4) w' y' T→Calls Tryz.prog 15 #[.agg #[.bool f,x,y],.agg #[.bool f,x',y']] w' (Gives w' fun v' _=>v'=.bool true)):=fun w' f x y x' y' P T z1 z2 z3 z4 h1 h2 h3 h4=>
  same21_yes h1 h2 h3 h4 (fun p hp=>(z1 p hp).bits.le (by decide)) (fun p hp=>(z2 p hp).bits.le (by decide)) (by omega) (by omega)
 have HSM:Hid (∀ w' va vb a,a∈LC l1→RdX w' va a.1.1 a.1.2→RdX w' vb a.1.1 a.1.2→Calls Tryz.prog 25 #[va,vb] w' (Gives w' fun v' _=>v'=.bool true)):=fun w' va vb a ha h1 h2=>by
  have z:=LC_smx a ha
  refine (lsame_any 8 8 h1 h2 z.2.1 z.2.1 z.2.2 z.2.2 (by have:=z.1;omega) (by have:=z.1;omega) (by decide)).mono fun _ _ ⟨v,e,b,t,h3,h4⟩=>⟨v,e,b,?_⟩
  rw [h3,h4.2 ⟨fun _=>rfl,rfl⟩]
 have HZI:Hid (∀ u:Int,-9223372036854775808≤u∧u≤9223372036854775807→∀ w,Calls Tryz.prog 20 #[.int .i64 u] w (Gives w fun v' w'=>OwnQ 115 0 w' v' (u:Rat))):=fun u hu w=>(rint_any hu).mono fun _ _ ⟨v,e,b,o⟩=>⟨v,e,b,o.mono (Nat.zero_le _)⟩
 have HAW:Hid (∀ w',Calls Tryz.prog 8 #[] w' (Gives w' fun v' _=>v'=.bool true)):=fun w'=>awake21
 have HV2:=Lib.hid hv2
 have HV1:=Lib.hid hv1
 obtain ⟨a1,k1,rfl,-,-⟩:=hv1.shape
 obtain ⟨a2,k2,rfl,-,-⟩:=hv2.shape
 clear hv1 hv2 _hb1 _hb2
 obtain ⟨m1,hm1⟩:∃ m,m=l1.length:=⟨_,rfl⟩
 obtain ⟨m2,hm2⟩:∃ m,m=l2.length:=⟨_,rfl⟩
 rw [← hm1] at HV1 ⊢
 rw [← hm2] at HV2 ⊢
 clear hm1 hm2
 go_enter Tryz.func7,Tryz.ntmps7
 go_wp2_with fail
 refine (HCU.out _ _ _ HV1.out).mono ?_
 rintro e w1 ⟨u1,rfl,b1,o1⟩
 have O1:=Lib.hid (RdRow.mono o1.rd fun _ _ h=>OwnNA.rd h)
 clear o1
 go_wp2_with fail
 refine (HCU.out _ _ _ (HV2.out.ext RdNA.ext b1)).mono ?_
 rintro e w2 ⟨u2,rfl,b2,o2⟩
 have O2:=Lib.hid (RdRow.mono o2.rd fun _ _ h=>OwnNA.rd h)
 have O12:=Lib.hid (O1.out.ext RdNA.ext b2)
 clear o2 HCU HV1 HV2 O1
 go_wp2_with fail
 refine (HAT.out _ _ _ O12.out).mono ?_
 rintro e w3 ⟨u3,rfl,b3,o3⟩
 have O3:=Lib.hid o3.rd
 have U1:=Lib.hid (O12.out.ext RdNA.ext b3)
 have U2:=Lib.hid (O2.out.ext RdNA.ext b3)
 have x3:=Ext.trans b1 (Ext.trans b2 b3)
 clear o3 O12 O2
 go_wp2_with fail
 refine (HSO.out _ _ _ O3.out).mono ?_
 rintro e w4 ⟨_,rfl,b4,f,P,T,⟨vp,vt,rfl,op,ot⟩,hsf⟩
 have HNT:=HON.out _ _ _ hsf
 obtain ⟨ap,kp,rfl,-,-⟩:=op.rd.shape
 obtain ⟨at4,kt,rfl,-,-⟩:=ot.rd.shape
 have OP:=Lib.hid op
 have OT:=Lib.hid ot
 obtain ⟨np,hnp⟩:∃ n,n=P.length:=⟨_,rfl⟩
 obtain ⟨nt,hnt⟩:∃ n,n=T.length:=⟨_,rfl⟩
 have HLP:=Lib.hid hnp.symm
 have HLT:=Lib.hid hnt.symm
 rw [← hnp,← hnt] at HNT
 have hnt4:nt≤400:=by rw [hnt];exact (HZS.out _ _ _ hsf).2.2.2
 have hnp4:np≤400:=by rw [hnp];exact (HZS.out _ _ _ hsf).2.2.1
 rw [← hnp] at OP ⊢
 rw [← hnt] at OT ⊢
 have HSF1:=Lib.hid hsf
 clear op ot hnp hnt hsf
 obtain ⟨c,hc⟩:∃ c,chkS n (LC l1)=c:=⟨_,rfl⟩
 have HC:=Lib.hid hc
 rw [hc]
 clear hc
 obtain ⟨w5,hw5,b5,c5,-,-⟩:=bx1 w4 [.bool f,.slice ap np kp,.slice at4 nt kt] 35
 have R5:Hid (Rt w5 w4.heap.size 3 35):=by
  show Rt _ _ _ _
  rw [hw5]
  exact Rt.new w4 [.bool f,.slice ap np kp,.slice at4 nt kt] _
 have HW:=Lib.hid hw5
 have C5:=Lib.hid c5
 have x35:=Ext.trans b4 b5
 have OP5:=Lib.hid (OP.out.ext OwnQ.ext b5)
 have OT5:=Lib.hid (OT.out.ext OwnQ.ext b5)
 have U25:=Lib.hid (U2.out.ext RdNA.ext x35)
 clear hw5 c5 OP OT
 go_upto_region 5 with (fail)
 rw [← HW.out]
 clear HW
 obtain ⟨e8,he8⟩:∃ e,e=w4.heap.size:=⟨_,rfl⟩
 rw [← he8] at C5 R5 ⊢
 clear he8
 go_wp2_with fail
 refine (HAT.out _ _ _ U25.out).mono ?_
 rintro e w6 ⟨u6,rfl,b6,o6⟩
 have O6:=Lib.hid o6.rd
 clear o6
 go_wp2_with fail
 refine (HSO.out _ _ _ O6.out).mono ?_
 rintro e w7 ⟨_,rfl,b7,f7,P7,T7,⟨vp7,vt7,rfl,-,-⟩,-⟩
 have x57:=Ext.trans b6 b7
 have x37:=Lib.hid (Ext.trans x35 x57)
 have C7:=Lib.hid (C5.out.ext x57)
 have R7:=Lib.hid (R5.out.ext x57)
 have OP7:=Lib.hid (OP5.out.ext OwnQ.ext x57)
 have OT7:=Lib.hid (OT5.out.ext OwnQ.ext x57)
 clear b4 b5 b6 b7 x35 x57 C5 R5 OP5 OT5 U25 U2 O6
 obtain ⟨-,-,k2'⟩:=C7.out.c3
 go_wp2_with fail
 clear k2'
 go_loopw [37] (fun t wr=>∃ (i:Nat) (T':List Rat),t=.int .i64 i∧i≤nt∧Hid (T'.length=nt)∧Hid (Ext w3 wr)∧Hid (Bx wr e8 [.bool f,.slice ap np kp,.slice at4 nt kt])∧Hid (Rt wr e8 3 35)∧Hid (OwnRow 3 (OwnQp 115) 49 w3.heap.size wr (.slice at4 nt kt) T')∧Hid (nt=0→OwnRow 3 (OwnQp 115) 49 w3.heap.size wr (.slice ap np kp) P)) (fun t _=>nt - (intOf t).toNat)
 case atStart=>exact ⟨0,T,rfl,Nat.zero_le _,HLT.out,x37.out,C7.out,R7.out,OT7.out,fun _=>OP7.out⟩
 case round=>
  clear x37 C7 R7 OT7 OP7
  obtain ⟨i,T',rfl,hi,hTl,hX,hC,hRt,hO,hOP⟩:=hrel
  by_cases hil:i < nt
  ·have hd:decide ((i:Int) < (nt:Int))=true:=decide_eq_true (by omega)
   have HJ1:IntKind.i64.wrap ((i:Int)+1)=((i+1:Nat):Int):=by rw [IntKind.wrap_i64];omega
   have HJ2:(0:Int)≤(i:Int)∧(i:Int) < (nt:Int):=⟨by omega,by omega⟩
   have hT0:0 < T'.length:=by have:=hTl.out;omega
   obtain ⟨g,hg,hgB,hgc,hrt⟩:=hO.out.base hT0 (by decide)
   subst hg
   have RT:=Lib.hid hrt
   have hne:e8≠g:=hRt.out.ne hrt (by decide)
   have hgk:nt≤kt:=by have:=hTl.out;omega
   obtain ⟨w8,hw8⟩:∃ w0:World,w0=wr:=⟨_,rfl⟩
   subst hw8
   clear hrt hgc hT0
   go_upto_region 9 with (fail)
   have b9:=drew_ext w8
   have XE:=b9
   refine wp_region_noPanic ?_
   refine wp_region_last_drew (st:=5) (S:=fun w'=>w'.cell? ⟨e8,0,none⟩=some (.bool f)∧w'.cell? ⟨e8,1,none⟩=some (.slice ap np kp)∧w'.cell? ⟨e8,2,none⟩=some (.slice (some ⟨g,0,none⟩) nt kt)) (by kernel_rfl) ((hC.out.ext XE).c3) (fun hHeld=>?_)
   refine tkL 0 hHeld ?_
   simp only [jP,jA,jB,jC,jD,jE,jF]
   refine tkL 1 hHeld ?_
   simp only [jP,jA,jB,jC,jD,jE,jF]
   refine tkL 2 hHeld ?_
   simp only [jP,jA,jB,jC,jD,jE,jF]
   refine rdL 3 (by kernel_rfl) rfl (fun K hK=>?_)
   go_simp
   go_at_call 20;refine (HZI.out 0 (by decide) _).mono ?_;rintro e w10 ⟨v10,rfl,b10,o10⟩;have O10:=Lib.hid o10;clear o10;(first | have XE:=Ext.trans XE b10 | have XE:=Ext.trans (Ext.trans XE (Ext.alloc _ _)) b10);obtain ⟨s9,a9,l9,c9,a10,l10,c10,rfl,Q9⟩:=O10.out.op
   go_wp2_with fail
   refine hK.out _ _ ((hC.out.ext XE).c3) (fun hHeld=>?_)
   clear hK K
   try simp only [jP,jA,jB,jC,jD,jE,jF]
   refine tkL 4 hHeld ?_
   simp only [jP,jA,jB,jC,jD,jE,jF]
   obtain ⟨_,_,_,j0,j1,j2,i0,i1,i2⟩:=(RT.out.ext XE).may3 (i*3) (by omega)
   refine wpAnyL_ready (rs:=[5]) (by kernel_rfl) (by simp) ?_
   refine AllReadyL.last (o:=_) rfl (fun K hK=>?_)
   go_simp
   refine hK.out _ _ ?_
   clear hK K
   try simp only [jP,jA,jB,jC,jD,jE,jF]
   refine wpAnyL_done (by kernel_rfl) ?_ _
   refine NoPanic.normal ?_
   go_wp2_with fail
   go_roundw
   case rel=>exact ⟨i+1,T'.set i ((0:Int):Rat),by go_num,by omega,by rw [List.length_set];exact hTl.out,putL_below hgB [_,_,_] (i*3) (Ext.trans hX.out XE),(hC.out.ext XE).putL hne (i*3) [_,_,_],(hRt.out.ext XE).putL hne (i*3) [_,_,_],(hO.out.ext OwnQ.ext XE).setL i (by have:=hTl.out;omega) (cs:=[_,_,_]) rfl (fun v b h=>OwnQ.putT h (RT.out.ext XE) (by decide) (i*3) [_,_,_]) (Q9.out.putT (RT.out.ext XE) (by decide) (i*3) [_,_,_]),fun h=>by omega⟩
   case measure=>simp [intOf] <;> omega
  ·have hd:decide ((i:Int) < (nt:Int))=false:=decide_eq_false (by omega)
   have HPN:Hid (np=0∨OwnRow 3 (OwnQp 115) 49 w3.heap.size wr (.slice ap np kp) P):=by
    rcases HNT with h | h
    ·exact .inl h
    ·exact .inr (hOP.out h)
   obtain ⟨-,k1',-⟩:=hC.out.c3
   clear hO hOP hTl
   go_wp2_with fail
   clear k1'
   go_loopw [49] (fun t wx=>∃ (j:Nat) (P':List Rat),t=.int .i64 j∧j≤np∧Hid (np=0∨P'.length=np∧OwnRow 3 (OwnQp 115) 49 w3.heap.size wx (.slice ap np kp) P')∧Hid (Ext w3 wx)∧Hid (Bx wx e8 [.bool f,.slice ap np kp,.slice at4 nt kt])∧Hid (Rt wx e8 3 35)) (fun t _=>np - (intOf t).toNat)
   case atStart=>exact ⟨0,P,rfl,Nat.zero_le _,(by
    rcases HPN.out with h | h
    ·exact .inl h
    ·exact .inr ⟨HLP.out,h⟩),hX.out,hC.out,hRt.out⟩
   case round=>
    clear hX hC hRt HPN
    obtain ⟨j,P',rfl,hj,hOr,hX,hC,hRt⟩:=hrel
    by_cases hjl:j < np
    ·have hd2:decide ((j:Int) < (np:Int))=true:=decide_eq_true (by omega)
     have HJ1:IntKind.i64.wrap ((j:Int)+1)=((j+1:Nat):Int):=by rw [IntKind.wrap_i64];omega
     have HJ2:(0:Int)≤(j:Int)∧(j:Int) < (np:Int):=⟨by omega,by omega⟩
     obtain ⟨hPl,hO⟩:Hid (P'.length=np)∧Hid (OwnRow 3 (OwnQp 115) 49 w3.heap.size wr (.slice ap np kp) P'):=by
      rcases hOr.out with h | h
      ·omega
      ·exact h
     have hT0:0 < P'.length:=by have:=hPl.out;omega
     obtain ⟨g,hg,hgB,hgc,hrt⟩:=hO.out.base hT0 (by decide)
     subst hg
     have RT:=Lib.hid hrt
     have hne:e8≠g:=hRt.out.ne hrt (by decide)
     have hgk:np≤kp:=by have:=hPl.out;omega
     obtain ⟨w8,hw8⟩:∃ w0:World,w0=wr:=⟨_,rfl⟩
     subst hw8
     clear hrt hgc hT0 hOr
     go_upto_region 14 with (fail)
     have b9:=drew_ext w8
     have XE:=b9
     refine wp_region_noPanic ?_
     refine wp_region_last_drew (st:=5) (S:=fun w'=>w'.cell? ⟨e8,0,none⟩=some (.bool f)∧w'.cell? ⟨e8,1,none⟩=some (.slice (some ⟨g,0,none⟩) np kp)∧w'.cell? ⟨e8,2,none⟩=some (.slice at4 nt kt)) (by kernel_rfl) ((hC.out.ext XE).c3) (fun hHeld=>?_)
     refine tkL 0 hHeld ?_
     simp only [jP,jA,jB,jC,jD,jE,jF]
     refine tkL 1 hHeld ?_
     simp only [jP,jA,jB,jC,jD,jE,jF]
     refine tkL 2 hHeld ?_
     simp only [jP,jA,jB,jC,jD,jE,jF]
     refine rdL 3 (by kernel_rfl) rfl (fun K hK=>?_)
     go_simp
     go_at_call 20;refine (HZI.out 7 (by decide) _).mono ?_;rintro e w10 ⟨v10,rfl,b10,o10⟩;have O10:=Lib.hid o10;clear o10;(first | have XE:=Ext.trans XE b10 | have XE:=Ext.trans (Ext.trans XE (Ext.alloc _ _)) b10);obtain ⟨s9,a9,l9,c9,a10,l10,c10,rfl,Q9⟩:=O10.out.op
     go_wp2_with fail
     refine hK.out _ _ ((hC.out.ext XE).c3) (fun hHeld=>?_)
     clear hK K
     try simp only [jP,jA,jB,jC,jD,jE,jF]
     refine tkL 4 hHeld ?_
     simp only [jP,jA,jB,jC,jD,jE,jF]
     obtain ⟨_,_,_,j0,j1,j2,i0,i1,i2⟩:=(RT.out.ext XE).may3 (j*3) (by omega)
     refine wpAnyL_ready (rs:=[5]) (by kernel_rfl) (by simp) ?_
     refine AllReadyL.last (o:=_) rfl (fun K hK=>?_)
     go_simp
     refine hK.out _ _ ?_
     clear hK K
     try simp only [jP,jA,jB,jC,jD,jE,jF]
     refine wpAnyL_done (by kernel_rfl) ?_ _
     refine NoPanic.normal ?_
     go_wp2_with fail
     go_roundw
     case rel=>exact ⟨j+1,P'.set j ((7:Int):Rat),by go_num,by omega,.inr ⟨by rw [List.length_set];exact hPl.out,(hO.out.ext OwnQ.ext XE).setL j (by have:=hPl.out;omega) (cs:=[_,_,_]) rfl (fun v b h=>OwnQ.putT h (RT.out.ext XE) (by decide) (j*3) [_,_,_]) (Q9.out.putT (RT.out.ext XE) (by decide) (j*3) [_,_,_])⟩,putL_below hgB [_,_,_] (j*3) (Ext.trans hX.out XE),(hC.out.ext XE).putL hne (j*3) [_,_,_],(hRt.out.ext XE).putL hne (j*3) [_,_,_]⟩
     case measure=>simp [intOf] <;> omega
    ·have hd2:decide ((j:Int) < (np:Int))=false:=decide_eq_false (by omega)
     obtain ⟨w8,hw8⟩:∃ w0:World,w0=wr:=⟨_,rfl⟩
     subst hw8
     have G8:=Lib.hid (O3.out.ext OwnAt.ext hX.out)
     have U8:=Lib.hid (U1.out.ext RdNA.ext hX.out)
     have x8:=Ext.trans x3 hX.out
     clear hC hRt hX hOr O3 U1 HNT
     go_wp2_with fail
     refine (HAT.out _ _ _ U8.out).mono ?_
     rintro e w9 ⟨u9,rfl,b9,o9⟩
     have O9:=Lib.hid o9.rd
     clear o9
     go_wp2_with fail
     refine (HSO.out _ _ _ O9.out).mono ?_
     rintro e w10 ⟨_,rfl,b10,f1,P1,T1,⟨vp1,vt1,rfl,op,ot⟩,hs1⟩
     obtain ⟨rfl,rfl,rfl⟩:=HUN.out _ _ _ _ _ _ HSF1.out hs1
     rw [HC.out]
     obtain ⟨ap1,kp1,rfl,-,-⟩:=op.rd.shape
     obtain ⟨at1,kt1,rfl,-,-⟩:=ot.rd.shape
     have OP:=Lib.hid op.rd
     have OT:=Lib.hid ot.rd
     rw [HLP.out] at OP ⊢
     rw [HLT.out] at OT ⊢
     clear op ot hs1 O9
     obtain ⟨w11,hw11,b11,c11,-,-⟩:=bx1 w10 [.bool f,.slice ap1 np kp1,.slice at1 nt kt1] 35
     have HW:=Lib.hid hw11
     have C11:=Lib.hid c11
     have x811:=Ext.trans b9 (Ext.trans b10 b11)
     have OP11:=Lib.hid (OP.out.ext OwnQ.ext b11)
     have OT11:=Lib.hid (OT.out.ext OwnQ.ext b11)
     have G11:=Lib.hid (G8.out.ext OwnAt.ext x811)
     have U11:=Lib.hid (U8.out.ext RdNA.ext x811)
     have x11:=Ext.trans x8 x811
     clear hw11 c11 OP OT G8 U8
     go_upto_region 17 with (fail)
     rw [← HW.out]
     clear HW
     obtain ⟨e11,he11⟩:∃ e,e=w10.heap.size:=⟨_,rfl⟩
     rw [← he11] at C11 ⊢
     clear he11 b9 b10 b11 x811
     go_wp2_with fail
     refine (HSO.out _ _ _ G11.out).mono ?_
     rintro e w12 ⟨_,rfl,b12,f1,P1,T1,⟨vp1,vt1,rfl,op,ot⟩,hs1⟩
     obtain ⟨rfl,rfl,rfl⟩:=HUN.out _ _ _ _ _ _ HSF1.out hs1
     rw [HC.out]
     obtain ⟨ap2,kp2,rfl,-,-⟩:=op.rd.shape
     obtain ⟨at2,kt2,rfl,-,-⟩:=ot.rd.shape
     have OP:=Lib.hid op.rd
     have OT:=Lib.hid ot.rd
     rw [HLP.out] at OP ⊢
     rw [HLT.out] at OT ⊢
     clear op ot hs1
     obtain ⟨w13,hw13,b13,c13,-,-⟩:=bx1 w12 [.bool f,.slice ap2 np kp2,.slice at2 nt kt2] 35
     have HW:=Lib.hid hw13
     have D13:=Lib.hid c13
     have x1113:=Ext.trans b12 b13
     have C13:=Lib.hid (C11.out.ext x1113)
     have OPa:=Lib.hid (OP11.out.ext OwnQ.ext x1113)
     have OTa:=Lib.hid (OT11.out.ext OwnQ.ext x1113)
     have OPb:=Lib.hid (OP.out.ext OwnQ.ext b13)
     have OTb:=Lib.hid (OT.out.ext OwnQ.ext b13)
     have G13:=Lib.hid (G11.out.ext OwnAt.ext x1113)
     have U13:=Lib.hid (U11.out.ext RdNA.ext x1113)
     have x13:=Ext.trans x11 x1113
     obtain ⟨z1,z2,z3,z4⟩:=HZS.out _ _ _ HSF1.out
     have Z1:=Lib.hid z1
     have Z2:=Lib.hid z2
     have Z3:=Lib.hid z3
     have Z4:=Lib.hid z4
     have hcc:(c != c)=false:=by simp
     clear hw13 c13 OP OT OP11 OT11 G11 U11 C11 z1 z2 z3 z4
     go_upto_region 18 with (fail)
     rw [← HW.out]
     clear HW
     obtain ⟨e13,he13⟩:∃ e,e=w12.heap.size:=⟨_,rfl⟩
     rw [← he13] at D13 ⊢
     clear he13 b12 b13 x1113
     have b14:=drew_ext w13
     have XE:=b14
     refine wp_region_noPanic ?_
     refine wp_region_held_drew (S:=fun w'=>(w'.cell? ⟨e11,0,none⟩=some (.bool f)∧w'.cell? ⟨e11,1,none⟩=some (.slice ap1 np kp1)∧w'.cell? ⟨e11,2,none⟩=some (.slice at1 nt kt1))∧(w'.cell? ⟨e13,0,none⟩=some (.bool f)∧w'.cell? ⟨e13,1,none⟩=some (.slice ap2 np kp2)∧w'.cell? ⟨e13,2,none⟩=some (.slice at2 nt kt2))) (by kernel_rfl) (⟨(C13.out.ext XE).c3,(D13.out.ext XE).c3⟩) (fun hHeld=>?_)
     refine rdH 0 (by kernel_rfl) rfl (fun K hK=>?_)
     go_simp
     go_at_call 8;refine (HAW.out _).mono ?_;rintro e w15 ⟨_,rfl,b15,rfl⟩;(first | have XE:=Ext.trans XE b15 | have XE:=Ext.trans (Ext.trans XE (Ext.alloc _ _)) b15)
     go_wp2_with fail
     refine hK.out _ _ (⟨(C13.out.ext XE).c3,(D13.out.ext XE).c3⟩) (fun hHeld=>?_)
     clear hK K
     try simp only [jP,jA,jB,jC,jD,jE,jF]
     refine tkH 1 hHeld ?_
     simp only [jP,jA,jB,jC,jD,jE,jF]
     refine tkH 2 hHeld ?_
     simp only [jP,jA,jB,jC,jD,jE,jF]
     refine tkH 3 hHeld ?_
     simp only [jP,jA,jB,jC,jD,jE,jF]
     refine tkH 4 hHeld ?_
     simp only [jP,jA,jB,jC,jD,jE,jF]
     refine tkH 5 hHeld ?_
     simp only [jP,jA,jB,jC,jD,jE,jF]
     refine tkH 6 hHeld ?_
     simp only [jP,jA,jB,jC,jD,jE,jF]
     refine tkH 7 hHeld ?_
     simp only [jP,jA,jB,jC,jD,jE,jF]
     refine tkH 8 hHeld ?_
     simp only [jP,jA,jB,jC,jD,jE,jF]
     refine tkH 9 hHeld ?_
     simp only [jP,jA,jB,jC,jD,jE,jF]
     refine tkH 10 hHeld ?_
     simp only [jP,jA,jB,jC,jD,jE,jF]
     refine tkH 11 hHeld ?_
     simp only [jP,jA,jB,jC,jD,jE,jF]
     refine tkH 12 hHeld ?_
     simp only [jP,jA,jB,jC,jD,jE,jF]
     refine tkH 13 hHeld ?_
     simp only [jP,jA,jB,jC,jD,jE,jF]
     refine tkH 15 hHeld ?_
     simp only [jP,jA,jB,jC,jD,jE,jF]
     refine rdH 14 (by kernel_rfl) rfl (fun K hK=>?_)
     go_simp
     go_at_call 16;refine (HTO.out _ f _ _ P T Z1.out Z2.out Z3.out Z4.out (OPa.out.ext OwnQ.ext XE) (OTa.out.ext OwnQ.ext XE)).mono ?_;rintro e w16 ⟨v16,rfl,b16,o16⟩;have O16:=Lib.hid o16;clear o16;(first | have XE:=Ext.trans XE b16 | have XE:=Ext.trans (Ext.trans XE (Ext.alloc _ _)) b16);obtain ⟨x16,y16,rfl,X16,Y16⟩:=O16.out
     go_wp2_with fail
     refine hK.out _ _ (⟨(C13.out.ext XE).c3,(D13.out.ext XE).c3⟩) (fun hHeld=>?_)
     clear hK K
     try simp only [jP,jA,jB,jC,jD,jE,jF]
     refine rdH 16 (by kernel_rfl) rfl (fun K hK=>?_)
     go_simp
     go_at_call 16;refine (HTO.out _ f _ _ P T Z1.out Z2.out Z3.out Z4.out (OPb.out.ext OwnQ.ext XE) (OTb.out.ext OwnQ.ext XE)).mono ?_;rintro e w17 ⟨v17,rfl,b17,o17⟩;have O17:=Lib.hid o17;clear o17;(first | have XE:=Ext.trans XE b17 | have XE:=Ext.trans (Ext.trans XE (Ext.alloc _ _)) b17);obtain ⟨x17,y17,rfl,X17,Y17⟩:=O17.out
     go_wp2_with fail
     refine hK.out _ _ (⟨(C13.out.ext XE).c3,(D13.out.ext XE).c3⟩) (fun hHeld=>?_)
     clear hK K
     try simp only [jP,jA,jB,jC,jD,jE,jF]
     refine rdH 17 (by kernel_rfl) rfl (fun K hK=>?_)
     go_simp
     go_at_call 15;refine (HSA.out _ f _ _ _ _ P T Z1.out Z2.out Z3.out Z4.out (X16.ext OwnP.ext b17) (Y16.ext OwnP.ext b17) X17 Y17).mono ?_;rintro e w18 ⟨_,rfl,b18,rfl⟩;(first | have XE:=Ext.trans XE b18 | have XE:=Ext.trans (Ext.trans XE (Ext.alloc _ _)) b18)
     go_wp2_with fail
     refine hK.out _ _ (⟨(C13.out.ext XE).c3,(D13.out.ext XE).c3⟩) (fun hHeld=>?_)
     clear hK K
     try simp only [jP,jA,jB,jC,jD,jE,jF]
     refine tkH 18 hHeld ?_
     simp only [jP,jA,jB,jC,jD,jE,jF]
     refine tkH 19 hHeld ?_
     simp only [jP,jA,jB,jC,jD,jE,jF]
     refine wpAnyH_done (by kernel_rfl) ?_ _
     refine NoPanic.normal ?_
     have G18:=Lib.hid (G13.out.ext OwnAt.ext XE)
     have U18:=Lib.hid (U13.out.ext RdNA.ext XE)
     have x18:=Ext.trans x13 XE
     clear hHeld C13 D13 OPa OPb OTa OTb Z1 Z2 Z3 Z4 G13 U13
     go_wp2_with fail
     refine (HAT.out _ _ _ U18.out).mono ?_
     rintro e w19 ⟨u19,rfl,b19,o19⟩
     have W19:=Lib.hid o19.rd
     have G19:=Lib.hid (G18.out.ext OwnAt.ext b19)
     have x19:=Ext.trans x18 b19
     obtain ⟨ag,kg,rfl,-,-⟩:=G19.out.shape
     obtain ⟨aw,kw,rfl,-,-⟩:=W19.out.shape
     clear o19 G18 U18 HAT HSO HTO HSA HUN HZS HON HSF1 HC
     obtain ⟨nL,hnL⟩:∃ nL,nL=(LC l1).length:=⟨_,rfl⟩
     have HNL:=Lib.hid hnL
     have hnL8:nL≤8:=by rw [hnL];exact LC_len l1
     rw [← hnL] at G19 W19 ⊢
     clear hnL
     generalize LC l1=A at*
     go_wp2_with fail
     go_loopw [95] (fun t wx=>∃ k:Nat,t=.int .i64 k∧k≤nL∧Ext w19 wx) (fun t _=>nL - (intOf t).toNat)
     case atStart=>exact ⟨0,rfl,Nat.zero_le _,Ext.refl _⟩
     case round=>
      obtain ⟨k,rfl,hk,hx⟩:=hrel
      by_cases hkl:k < nL
      ·have hd3:decide ((k:Int) < (nL:Int))=true:=decide_eq_true (by omega)
       have HK1:IntKind.i64.wrap ((k:Int)+1)=((k+1:Nat):Int):=by rw [IntKind.wrap_i64];omega
       have HK2:(0:Int)≤(k:Int)∧(k:Int) < (nL:Int):=⟨by omega,by omega⟩
       have hkA:k < A.length:=by rw [← HNL.out];exact hkl
       obtain ⟨bG,oG,ga,gk,gs,gb,gm,gd,gb',gm',gd',hg,hbG,hxG⟩:=G19.out.atm k hkA
       obtain ⟨bW,oW,wa,wk,ws,wb,wm,wd,wb',wm',wd',hw,hbW,hxW⟩:=W19.out.atm k hkA
       subst hg hw
       have HIN:Hid (A[k]∈A):=List.getElem_mem hkA
       have CG:=Lib.hid (hbG.ext hx)
       have CW:=Lib.hid (hbW.ext hx)
       have HS2:Hid (∀ w',Ext wr w'→Calls Tryz.prog 25 #[.agg #[.slice ga A[k].1.1.length gk,.bool gs,.slice gb gm gd,.slice gb' gm' gd'],.agg #[.slice wa A[k].1.1.length wk,.bool ws,.slice wb wm wd,.slice wb' wm' wd']] w' (Gives w' fun v' _=>v'=.bool true)):=fun w' X=>HSM.out _ _ _ A[k] HIN.out ((OwnEx.rd hxG).ext (Ext.trans hx X)) ((OwnEx.rd hxW).ext (Ext.trans hx X))
       clear hbG hbW hxG hxW HIN
       generalize A[k].1.1.length=ln at*
       generalize A[k].2=op at*
       have hoo:(op != op)=false:=by simp
       have hll:((ln:Int) != (ln:Int))=false:=by simp
       obtain ⟨w20,hw20⟩:∃ w0:World,w0=wr:=⟨_,rfl⟩
       subst hw20
       go_upto_region 24 with (fail)
       have b21:=drew_ext w20
       have XE:=b21
       refine wp_region_noPanic ?_
       refine wp_region_held_drew (S:=fun w'=>(w'.cell? ⟨bG,oG+k*5,none⟩=some (.slice ga ln gk)∧w'.cell? ⟨bG,oG+k*5+1,none⟩=some (.bool gs)∧w'.cell? ⟨bG,oG+k*5+2,none⟩=some (.slice gb gm gd)∧w'.cell? ⟨bG,oG+k*5+3,none⟩=some (.slice gb' gm' gd')∧w'.cell? ⟨bG,oG+k*5+4,none⟩=some (.int .i64 op))∧(w'.cell? ⟨bW,oW+k*5,none⟩=some (.slice wa ln wk)∧w'.cell? ⟨bW,oW+k*5+1,none⟩=some (.bool ws)∧w'.cell? ⟨bW,oW+k*5+2,none⟩=some (.slice wb wm wd)∧w'.cell? ⟨bW,oW+k*5+3,none⟩=some (.slice wb' wm' wd')∧w'.cell? ⟨bW,oW+k*5+4,none⟩=some (.int .i64 op))) (by kernel_rfl) (⟨(CG.out.ext XE).c5,(CW.out.ext XE).c5⟩) (fun hHeld=>?_)
       refine tkH 0 hHeld ?_
       simp only [jP,jA,jB,jC,jD,jE,jF]
       refine tkH 1 hHeld ?_
       simp only [jP,jA,jB,jC,jD,jE,jF]
       refine tkH 2 hHeld ?_
       simp only [jP,jA,jB,jC,jD,jE,jF]
       refine tkH 3 hHeld ?_
       simp only [jP,jA,jB,jC,jD,jE,jF]
       refine tkH 4 hHeld ?_
       simp only [jP,jA,jB,jC,jD,jE,jF]
       refine tkH 5 hHeld ?_
       simp only [jP,jA,jB,jC,jD,jE,jF]
       refine tkH 6 hHeld ?_
       simp only [jP,jA,jB,jC,jD,jE,jF]
       refine tkH 7 hHeld ?_
       simp only [jP,jA,jB,jC,jD,jE,jF]
       refine tkH 8 hHeld ?_
       simp only [jP,jA,jB,jC,jD,jE,jF]
       refine tkH 9 hHeld ?_
       simp only [jP,jA,jB,jC,jD,jE,jF]
       refine tkH 10 hHeld ?_
       simp only [jP,jA,jB,jC,jD,jE,jF]
       refine tkH 11 hHeld ?_
       simp only [jP,jA,jB,jC,jD,jE,jF]
       refine tkH 12 hHeld ?_
       simp only [jP,jA,jB,jC,jD,jE,jF]
       refine tkH 13 hHeld ?_
       simp only [jP,jA,jB,jC,jD,jE,jF]
       refine tkH 14 hHeld ?_
       simp only [jP,jA,jB,jC,jD,jE,jF]
       refine tkH 15 hHeld ?_
       simp only [jP,jA,jB,jC,jD,jE,jF]
       refine tkH 16 hHeld ?_
       simp only [jP,jA,jB,jC,jD,jE,jF]
       refine tkH 17 hHeld ?_
       simp only [jP,jA,jB,jC,jD,jE,jF]
       refine tkH 18 hHeld ?_
       simp only [jP,jA,jB,jC,jD,jE,jF]
       refine tkH 19 hHeld ?_
       simp only [jP,jA,jB,jC,jD,jE,jF]
       refine tkH 20 hHeld ?_
       simp only [jP,jA,jB,jC,jD,jE,jF]
       refine tkH 21 hHeld ?_
       simp only [jP,jA,jB,jC,jD,jE,jF]
       refine rdH 22 (by kernel_rfl) rfl (fun K hK=>?_)
       go_simp
       go_at_call 25;refine (HS2.out _ XE).mono ?_;rintro e w22 ⟨_,rfl,b22,rfl⟩;(first | have XE:=Ext.trans XE b22 | have XE:=Ext.trans (Ext.trans XE (Ext.alloc _ _)) b22)
       go_wp2_with fail
       refine hK.out _ _ (⟨(CG.out.ext XE).c5,(CW.out.ext XE).c5⟩) (fun hHeld=>?_)
       clear hK K
       try simp only [jP,jA,jB,jC,jD,jE,jF]
       refine tkH 23 hHeld ?_
       simp only [jP,jA,jB,jC,jD,jE,jF]
       refine tkH 24 hHeld ?_
       simp only [jP,jA,jB,jC,jD,jE,jF]
       refine tkH 25 hHeld ?_
       simp only [jP,jA,jB,jC,jD,jE,jF]
       refine tkH 26 hHeld ?_
       simp only [jP,jA,jB,jC,jD,jE,jF]
       refine tkH 27 hHeld ?_
       simp only [jP,jA,jB,jC,jD,jE,jF]
       refine tkH 28 hHeld ?_
       simp only [jP,jA,jB,jC,jD,jE,jF]
       refine tkH 29 hHeld ?_
       simp only [jP,jA,jB,jC,jD,jE,jF]
       refine tkH 30 hHeld ?_
       simp only [jP,jA,jB,jC,jD,jE,jF]
       refine tkH 31 hHeld ?_
       simp only [jP,jA,jB,jC,jD,jE,jF]
       refine tkH 32 hHeld ?_
       simp only [jP,jA,jB,jC,jD,jE,jF]
       refine tkH 33 hHeld ?_
       simp only [jP,jA,jB,jC,jD,jE,jF]
       refine tkH 34 hHeld ?_
       simp only [jP,jA,jB,jC,jD,jE,jF]
       refine tkH 35 hHeld ?_
       simp only [jP,jA,jB,jC,jD,jE,jF]
       refine tkH 36 hHeld ?_
       simp only [jP,jA,jB,jC,jD,jE,jF]
       refine tkH 37 hHeld ?_
       simp only [jP,jA,jB,jC,jD,jE,jF]
       refine tkH 38 hHeld ?_
       simp only [jP,jA,jB,jC,jD,jE,jF]
       refine tkH 39 hHeld ?_
       simp only [jP,jA,jB,jC,jD,jE,jF]
       refine tkH 40 hHeld ?_
       simp only [jP,jA,jB,jC,jD,jE,jF]
       refine tkH 41 hHeld ?_
       simp only [jP,jA,jB,jC,jD,jE,jF]
       refine wpAnyH_done (by kernel_rfl) ?_ _
       refine NoPanic.normal ?_
       clear hHeld
       go_wp2_with fail
       go_roundw
       case rel=>exact ⟨k+1,by go_num,by omega,Ext.trans hx XE⟩
       case measure=>simp [intOf] <;> omega
      ·have hd3:decide ((k:Int) < (nL:Int))=false:=decide_eq_false (by omega)
       go_wp2_with fail
       exact hR.out _ _ (Gives.mk (Ext.trans x19 hx) rfl)
theorem own:ownKnob Tryz.prog.godebug=none:=by kernel_rfl
theorem laidOut:laidOutB Tryz.prog=true:=by kernel_rfl

set_option maxRecDepth 100000 in
theorem contract (H:Type) (enc:TypeId × Value→H) (W:World) (base:Nat) (args:Array Value) (ds gs:List (DataW H)) (before:List MemPlace)
  (hval:∀ (j:Nat) t v,Tryz.f7.params[j]?=some t→args[j]?=some v→Value.okWide Tryz.prog W .any base t v)
  (hW:DataW.Whole enc Tryz.prog Tryz.f7.params.toList Rows.simplexAgainSpec.vars false W args.toList ds gs before) (hk:Rows.uptoSmall H (ds ++ gs)=true):
  Calls Tryz.prog 7 args W fun e W'=>∃ v,e=.returned v∧Rows.simplexAgainSpec.post enc Tryz.prog Tryz.f7 false true false false W args v W':=by
 have hW':=hW
 obtain ⟨p,q,hA0,hV,rfl,hfz,hnd⟩:=hW
 have hA:DataW.TrodAll enc Tryz.prog W 0 (fun _=>true) true Tryz.f7.params.toList args.toList ds p:=hA0
 rw [Tryz.params7] at hA hval
 obtain ⟨v0,vs0,d0,ds0,p0,q0,hargs,rfl,rfl,h0,r0⟩:=trodAll_cons hA
 obtain ⟨v1,vs1,d1,ds1,p1,q1,rfl,rfl,rfl,h1,r1⟩:=trodAll_cons r0
 obtain ⟨v2,vs2,d2,ds2,p2,q2,rfl,rfl,rfl,h2,r2⟩:=trodAll_cons r1
 obtain ⟨rfl,rfl,rfl⟩:=trodAll_nil r2
 obtain rfl:args=#[v0,v1,v2]:=by cases args;simp_all
 obtain ⟨rfl,rfl⟩:=trodVars_none hV
 have hb:=bulk_small hk
 simp only [List.append_nil,bulk_cons,bulk_nil] at hb
 obtain ⟨a0,rfl,rfl,rfl,wf0⟩:=open_int Tryz.underlying3 (hval 0 3 v0 rfl rfl) h0
 have k1:=h1
 have lt1:∀ x∈p1,x.block < W.heap.size:=by obtain ⟨m,hm⟩:=k1;exact DataW.trod_lt m _ _ _ hm
 obtain ⟨l1,rd1,bd1,len1⟩:=open_rowA Tryz.underlying22 (hval 1 22 v1 rfl rfl) h1
 have k2:=h2
 have lt2:∀ x∈p2,x.block < W.heap.size:=by obtain ⟨m,hm⟩:=k2;exact DataW.trod_lt m _ _ _ hm
 obtain ⟨l2,rd2,bd2,len2⟩:=open_rowA Tryz.underlying22 (hval 2 22 v2 rfl rfl) h2
 clear hA0
 refine (walk (wf_int wf0) rd1 (fun p hp=>by have:=bd1 p hp;omega) (by omega) rd2 (fun p hp=>by have:=bd2 p hp;omega) (by omega)).mono fun e W' ⟨v,he,bel,hv⟩=>?_
 subst he hv
 exact ⟨_,rfl,_,_,_,[],_,[],hW',trodAll_mk1 (shut_bool Tryz.underlying4 _),(trodAll_cons_mk (shut_int Tryz.underlying3 wf0) (trodAll_cons_mk (Below.trod laidOut (by kernel_rfl) (of_decide_eq_true (by kernel_rfl)) k1 bel lt1) (trodAll_cons_mk (Below.trod laidOut (by kernel_rfl) (of_decide_eq_true (by kernel_rfl)) k2 bel lt2) trodAll_mk0))),rfl,bel.frame _,fun h=>by cases h⟩

set_option maxRecDepth 100000 in
theorem lifted (os:Os) (started:os.Started) (H:Type) (enc:TypeId × Value→H) (F:Stop.Interp):
  ReturnsInHanded {} Tryz.checked os 7 .any ((Rows.OpenSpec.upto Rows.simplexAgainSpec).pre6 enc Tryz.prog Tryz.f7 Rows.simplexAgainUptoRow.domain false) (((Rows.OpenSpec.upto Rows.simplexAgainSpec).at F).post enc Tryz.prog Tryz.f7 false true false false):=by
 refine returnsInHanded_of_cond (C:=Tryz.checked) (s:=Rows.OpenSpec.upto Rows.simplexAgainSpec) (k:=Rows.uptoSmall) rfl own started (by kernel_rfl) Tryz.func7
  (OpenSpec.witness (enc:=enc) (C:=Tryz.checked) (s:=Rows.OpenSpec.upto Rows.simplexAgainSpec) (k:=Rows.uptoSmall) rfl false ⟨#[],#[.int .i64 0,.slice none 0 0,.slice none 0 0],[]⟩ 8 (by kernel_rfl) (by kernel_rfl) (by kernel_rfl)
   (x:=([.lit (.int .i64 0),.nil,.nil],[],[])) (by kernel_rfl) rfl (by kernel_rfl)) ?_
 intro W base args ds gs before hval hW _ hk _
 exact contract H enc W base args ds gs before hval hW hk

theorem proved:Rows.SimplexAgainUptoSaid:=
 OpenClaim.holds_of_cond 7 Tryz.f7 rfl rfl rfl rfl rfl rfl rfl ⟨rfl,rfl,rfl,rfl,rfl⟩ rfl rfl rfl rfl rfl (by kernel_rfl) Tryz.func7 (by kernel_rfl)
  (of_decide_eq_true (by kernel_rfl)) (by unfold Func.isWrapper;first | (rw [if_pos (by decide +kernel)];kernel_rfl) | (rw [if_neg (by decide +kernel)];exact ⟨rfl,rfl⟩))
  (fun os started H enc _ F=>lifted os started H enc F)
#print axioms proved

end Go.Proofs.YthpaifdfafjlcaaGreat.simplexAgain
