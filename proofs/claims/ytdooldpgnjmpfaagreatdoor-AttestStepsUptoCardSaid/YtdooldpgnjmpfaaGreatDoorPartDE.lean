/- A group of texts: PAtomL, PR8Eval, PRef21All, PTrue14, PHolds22 -/
import Derived.Test.YtdooldpgnjmpfaaGreatDoorSq
import Derived.Test.YtdooldpgnjmpfaaGreatDoorPartDD
import Derived.Test.YtdooldpgnjmpfaaGreatDoorPartAI
import Derived.Test.YtdooldpgnjmpfaaGreatDoorPartBI
import Derived.Test.YtdooldpgnjmpfaaGreatDoorPartBG
import Derived.Test.YtdooldpgnjmpfaaGreatDoorPartCA
import Derived.Test.YtdooldpgnjmpfaaGreatDoorPartBJ
import Derived.Test.YtdooldpgnjmpfaaGreatDoorPartCF
import Derived.Test.YtdooldpgnjmpfaaGreatDoorPartDB
namespace Go.Proofs.YtdooldpgnjmpfaaGreatDoor
open Go.RowKit Go.Att

theorem etBt:ElemT Tryz.prog 48 112 (.agg #[.slice none 0 0,.bool false,.slice none 0 0,.slice none 0 0,.int .i64 0]) 5 88:=ElemT.mk' Tryz.underlying48 (by kernel_rfl) rfl (by decide)
open Go.RowKit Go.Att

set_option linter.unusedSimpArgs false in
set_option maxHeartbeats 4000000 in
set_option maxRecDepth 100000 in
theorem r8eval_z {w:World} {v vp:Value} {l:TL} {c:Rat} {P:List Rat} (K M:Nat) (hv:RdY w v l c) (hok:Okx K l c) (hp:RdRow 3 (OwnPp 4) w vp P) (hP:∀ p∈P,Sz M p) (hZ:∀ j,j≤P.length→Sz 1500 (c+smv (cf l) (P.take j) 0)) (hK:K+M≤1500) (hM:M≤1500):
  Calls Tryz.prog 42 #[v,vp] w (Gives w fun v' w'=>OwnP 4 0 w' v' (c+smv (cf l) P 0)):=by
 refine via fun R hR=>?_
 have HSM:Hid (∀ i,i < P.length→Sz M (gt P i)):=fun i hi=>hP _ (gt_mem' hi)
 have HSX:Hid (∀ x,Sz K (cf l x)):=hok.cf
 have HSZ:=Lib.hid hZ
 have HCO:Hid (∀ w' x,Ext w w'→Calls Tryz.prog 74 #[v,.int .i64 x] w' (Gives w' fun v' w'=>OwnP 4 0 w' v' (cf l x))):=fun w' x y=>r8coef_any (x:=x) K (hv.ext y) hok.2.1 (hok.2.2.1 x) hok.1 (by omega)
 obtain ⟨a,k,s,b,m,d,b',m',d',rfl,hlk,hkm,HRW,HRC⟩:=hv.op
 obtain ⟨ap,kp,rfl,hpk,hpm⟩:=hp.shape
 unfold maxLen at hpm
 have HP:=Lib.hid hp
 clear hv hP hp hok HRW hZ
 obtain ⟨w1,hw1,b1,c1,c2,r1,r2,z1⟩:=bx2 w [.slice a l.length k,.bool s,.slice b m d,.slice b' m' d'] [.bool false,.slice none 0 0,.slice none 0 0] 110 87
 have HW:=Lib.hid hw1
 have C1:=Lib.hid c1
 have R2:Hid (Rt w1 (w.heap.size+1) 3 87):=by
  show Rt _ _ _ _
  rw [hw1]
  have:=Rt.new (w.alloc (.cells #[.slice a l.length k,.bool s,.slice b m d,.slice b' m' d'] 110)) [.bool false,.slice none 0 0,.slice none 0 0] 87
  simpa using this
 clear c1 c2 r1 r2 hw1 z1
 go_enter Tryz.func42,Tryz.ntmps42
 go_upto_region 1 with (fail)
 rw [← HW.out]
 clear HW
 obtain ⟨w2,hw2,b2,hC2,-⟩:∃ W,W=w1.alloc (.cells #[.bool s,.slice b m d,.slice b' m' d'] 87)∧Ext w1 W∧Bp 4 87 W w1.heap.size c∧W.heap.size=w1.heap.size+1:=⟨_,rfl,Ext.alloc _ _,Bp.new ((HRC.out).ext b1),by simp⟩
 have HW:=Lib.hid hw2
 clear hw2
 obtain ⟨k0,k1,k2,k3⟩:=C1.out.c4
 go_upto_region 2 with (fail)
 rw [← HW.out]
 clear HW k0 k1 k2 k3
 go_wp2_with fail
 go_loopw [11] (fun t wr=>∃ j:Nat,t=.int .i64 j∧j≤P.length∧Ext w1 wr∧Hid (Bp 4 87 wr w1.heap.size (c+smv (cf l) (P.take j) 0))) (fun t _=>P.length - (intOf t).toNat)
 case atStart=>exact ⟨0,rfl,Nat.zero_le _,b2,by
  rw [List.take_zero]
  show Hid (Bp _ _ _ _ (c+0))
  rw [Rat.add_zero]
  exact hC2⟩
 case round=>
  clear hC2
  obtain ⟨j,rfl,hj,hx,hC⟩:=hrel
  by_cases hjl:j < P.length
  ·have hd:decide ((j:Int) < (P.length:Int))=true:=decide_eq_true (by omega)
   have hJ1:IntKind.i64.wrap (j:Int)=(j:Int):=by rw [IntKind.wrap_i64];omega
   have hJ2:(0:Int)≤(j:Int)∧(j:Int) < (P.length:Int):=⟨by omega,by omega⟩
   have HSN:=Lib.hid (smv_take (cf l) hjl)
   have HZJ:=Lib.hid (HSZ.out j hj)
   have HSJ:=Lib.hid (HSM.out j hjl)
   have HSY:=Lib.hid (HSX.out j)
   have HCJ:=Lib.hid (fun w' y=>HCO.out w' (j:Int) y)
   obtain ⟨w4,hw4⟩:∃ w0:World,w0=wr:=⟨_,rfl⟩
   subst hw4
   have b04:=Ext.trans b1 hx
   obtain ⟨bP,oP,sp,xp,kp',mp,yp,k2',m2',hae,hbo,hqp⟩:=HP.out.op' j hjl
   subst hae
   have CP:=Lib.hid (hbo.ext b04)
   have HQP:=Lib.hid (hqp.ext b04)
   have D1:=Lib.hid (C1.out.ext hx)
   clear hbo hqp
   generalize gt P j=pv at*
   generalize smv (cf l) (P.take j) 0=sj at*
   generalize cf l (j:Int)=fj at*
   go_upto_region 5 with (fail)
   obtain ⟨s0,e1,n1,g1,e2,n2,g2,T1,T2,T3⟩:=hC.out.op
   have b5:=drew_ext w4
   have XE:=b5
   refine wp_region_noPanic ?_
   refine wp_region_last_drew (st:=10) (S:=fun w'=>(w'.cell? ⟨w1.heap.size,0,none⟩=some (.bool s0)∧w'.cell? ⟨w1.heap.size,1,none⟩=some (.slice e1 n1 g1)∧w'.cell? ⟨w1.heap.size,2,none⟩=some (.slice e2 n2 g2))∧(w'.cell? ⟨w.heap.size,0,none⟩=some (.slice a l.length k)∧w'.cell? ⟨w.heap.size,1,none⟩=some (.bool s)∧w'.cell? ⟨w.heap.size,2,none⟩=some (.slice b m d)∧w'.cell? ⟨w.heap.size,3,none⟩=some (.slice b' m' d'))∧(w'.cell? ⟨bP,oP+j*3,none⟩=some (.bool sp)∧w'.cell? ⟨bP,oP+j*3+1,none⟩=some (.slice xp kp' mp)∧w'.cell? ⟨bP,oP+j*3+2,none⟩=some (.slice yp k2' m2'))) (by kernel_rfl) (⟨(T1.out.ext XE).c3,(D1.out.ext XE).c4,(CP.out.ext XE).c3⟩) (fun hHeld=>?_)
   refine tkL 0 hHeld ?_
   simp only [jP,jA,jB,jC,jD,jE,jF]
   refine tkL 1 hHeld ?_
   simp only [jP,jA,jB,jC,jD,jE,jF]
   refine tkL 2 hHeld ?_
   simp only [jP,jA,jB,jC,jD,jE,jF]
   refine tkL 4 hHeld ?_
   simp only [jP,jA,jB,jC,jD,jE,jF]
   refine tkL 5 hHeld ?_
   simp only [jP,jA,jB,jC,jD,jE,jF]
   refine tkL 6 hHeld ?_
   simp only [jP,jA,jB,jC,jD,jE,jF]
   refine tkL 7 hHeld ?_
   simp only [jP,jA,jB,jC,jD,jE,jF]
   refine rdL 3 (by kernel_rfl) rfl (fun K hK=>?_)
   go_simp
   go_at_call 74;refine (HCJ.out _ (Ext.trans b04 XE)).mono ?_;rintro e w6 ⟨v6,rfl,b6,o6⟩;have O6:=Lib.hid o6;clear o6;(first | have XE:=Ext.trans XE b6 | have XE:=Ext.trans (Ext.trans XE (Ext.alloc _ _)) b6)
   go_wp2_with fail
   refine hK.out _ _ (⟨(T1.out.ext XE).c3,(D1.out.ext XE).c4,(CP.out.ext XE).c3⟩) (fun hHeld=>?_)
   clear hK K
   try simp only [jP,jA,jB,jC,jD,jE,jF]
   refine rdL 8 (by kernel_rfl) rfl (fun K hK=>?_)
   go_simp
   go_at_call 73;refine (r5mul_any O6.out.rd (HQP.out.rd.ext XE) (HSY.out.bits.le (by omega)) (HSJ.out.bits.le (by omega))).mono ?_;rintro e w7 ⟨v7,rfl,b7,o7⟩;have O7:=Lib.hid o7;clear o7;(first | have XE:=Ext.trans XE b7 | have XE:=Ext.trans (Ext.trans XE (Ext.alloc _ _)) b7)
   go_wp2_with fail
   refine hK.out _ _ (⟨(T1.out.ext XE).c3,(D1.out.ext XE).c4,(CP.out.ext XE).c3⟩) (fun hHeld=>?_)
   clear hK K
   try simp only [jP,jA,jB,jC,jD,jE,jF]
   refine rdL 9 (by kernel_rfl) rfl (fun K hK=>?_)
   go_simp
   go_at_call 72;refine (r5add_any (T3.out.rd.ext XE) O7.out.rd (HZJ.out.bits.le (by omega)) ((HSY.out.mul HSJ.out).bits.le (by omega))).mono ?_;rintro e w8 ⟨v8,rfl,b8,o8⟩;have O8:=Lib.hid o8;clear o8;(first | have XE:=Ext.trans XE b8 | have XE:=Ext.trans (Ext.trans XE (Ext.alloc _ _)) b8);obtain ⟨_,_,_,_,_,_,_,rfl,P8⟩:=O8.out.op
   go_wp2_with fail
   refine hK.out _ _ (⟨(T1.out.ext XE).c3,(D1.out.ext XE).c4,(CP.out.ext XE).c3⟩) (fun hHeld=>?_)
   clear hK K
   try simp only [jP,jA,jB,jC,jD,jE,jF]
   obtain ⟨_,_,_,j0,j1,j2,i0,i1,i2⟩:=(T2.out.ext XE).rm.c3
   refine wpAnyL_ready (rs:=[10]) (by kernel_rfl) (by simp) ?_
   refine AllReadyL.last (o:=_) rfl (fun K hK=>?_)
   go_simp
   refine hK.out _ _ ?_
   clear hK K
   try simp only [jP,jA,jB,jC,jD,jE,jF]
   refine wpAnyL_done (by kernel_rfl) ?_ _
   refine NoPanic.normal ?_
   go_wp2_with fail
   go_roundw
   case rel=>exact ⟨j+1,by go_num,by omega,put3_below (Ext.trans hx XE) (Nat.le_refl _) _ _ _,by
    rw [HSN.out,← Rat.add_assoc]
    exact Bp.set (T2.out.ext XE) (by decide) (P8.out.mono (Nat.zero_le _))⟩
   case measure=>simp [intOf] <;> omega
  ·obtain rfl:j=P.length:=by omega
   have hd:decide ((P.length:Int) < (P.length:Int))=false:=decide_eq_false (by omega)
   rw [List.take_length] at hC
   obtain ⟨s0,e1,n1,g1,e2,n2,g2,T1,T2,T3⟩:=hC.out.op
   obtain ⟨k0,k1,k2⟩:=T1.out.c3
   have RR:=Lib.hid (R2.out.ext hx)
   obtain ⟨_,_,_,j0,j1,j2,i0,i1,i2⟩:=RR.out.rm.c3
   go_wp2_with fail
   refine bodyPost_ret (v:=.agg #[.bool s0,.slice e1 n1 g1,.slice e2 n2 g2]) (by simp [results,Tryz.results42,go_sem,j0,j1,j2]) rfl ?_
   exact hR.out _ _ (Gives.mk (put3_below (Ext.trans b1 hx) (Nat.le_succ _) _ _ _) (T3.out.putT RR.out (by decide) 0 [_,_,_]))
set_option linter.unusedSimpArgs false in
theorem point_any {w:World} {v:Value} {l:List NN} (hv:RdRow 3 RdNp w v l) (hs:∀ p∈l,Nlt 1000000000 p):
  Calls Tryz.prog 8 #[v] w (Gives w fun v' w'=>OwnRow 3 (OwnQp 119) 59 w.heap.size w' v' ((l.take 6).map qN)):=by
 refine via fun R hR=>?_
 have HS:=Lib.hid hs
 obtain ⟨a,c,rfl,hlc,hcm⟩:=hv.shape
 have HV:=Lib.hid hv
 unfold maxLen at hcm
 clear hv hs
 go_enter Tryz.func8,Tryz.ntmps8
 go_wp2_with fail
 go_loopw [3,4] (fun o i wr=>∃ k:Nat,i=.int .i64 k∧k≤l.length∧k≤6∧Ext w wr∧Hid (OwnRow 3 (OwnQp 119) 59 w.heap.size wr o ((l.take k).map qN))) (fun _ i _=>6 - (intOf i).toNat)
 case atStart=>exact ⟨0,rfl,Nat.zero_le _,Nat.zero_le _,Ext.alloc _ _,by rw [List.take_zero];exact OwnRow.nilLit _ (Nat.le_refl _)⟩
 case round=>
  obtain ⟨k,rfl,hk,hk2,hx,hO⟩:=hrel
  have hsz:=hx.size
  by_cases hlt:k < l.length
  ·by_cases h34:k < 6
   ·obtain ⟨b,off,cs,rfl,hcl,hT,hc⟩:=HV.out.at (by decide) k hlt
    obtain ⟨y,z,rfl⟩:=cells_N hT
    have e0:=Ext.cell hx (hc 0 (by decide))
    have e1:=Ext.cell hx (hc 1 (by decide))
    have e2:=Ext.cell hx (hc 2 (by decide))
    have HSN:=Lib.hid (take_map_snoc qN hlt)
    have HTT:=Lib.hid (RdNp.ext hT hx)
    have HSS:=Lib.hid (HS.out l[k] (List.getElem_mem hlt))
    simp only [List.getElem?_cons_zero,List.getElem?_cons_succ,Nat.add_zero] at e0 e1 e2
    generalize l[k]=p at*
    have HKL:Hid (((l.take k).map qN).length≤6):=by show _≤_;simp;omega
    clear hT hc
    go_wp2_with fail
    refine (of8_any HTT.out HSS.out.1 HSS.out.2).mono ?_
    rintro e w1 ⟨_,rfl,b1,o1⟩
    clear e0 e1 e2
    obtain ⟨s1,a1,l1,c1,a1',l1',c1',rfl,O1⟩:=o1.op
    have hO1:=Lib.hid (hO.out.ext OwnQ.ext b1)
    have b01:=hx.trans b1
    clear o1
    go_wp2_with (at_builtin;refine append_rowL (y:=qN p) etRats (kdQ (e:=119) (by decide)) (by rfl) _ _ (by rfl) w.heap.size (by rfl) _ (by rfl) hO1.out rfl (O1.out.mono (Nat.zero_le _)) (Below.size b01) (by have:=HKL.out;omega) (by unfold maxLen;have:=HKL.out;omega) ?_;intro v9 w9 o9 b9 g9)
    go_roundw
    case rel=>
     refine ⟨k+1,by go_num,by omega,by omega,Below.trans b01 b9,?_⟩
     rw [HSN.out]
     exact o9
    case measure=>simp [intOf] <;> omega
   ·obtain rfl:k=6:=by omega
    go_wp2_with fail
    exact hR.out _ _ (Gives.mk hx hO.out)
  ·obtain rfl:k=l.length:=by omega
   have HX:Hid ((l.take l.length).map qN=(l.take 6).map qN):=by show _=_;rw [List.take_length,List.take_of_length_le hk2]
   go_wp2_with fail
   exact hR.out _ _ (Gives.mk hx (by rw [← HX.out];exact hO.out))
open Go.RowKit Go.Att

set_option linter.unusedSimpArgs false in
set_option maxHeartbeats 4000000 in
set_option maxRecDepth 100000 in
theorem says9r_any {w:World} {v:Value} {q:Rat} {op:Int} (hv:RdP w v q) (ho:1≤op∧op≤3):
  Calls Tryz.prog 41 #[.int .i64 op,v] w (Gives w fun v' _=>v'=.bool (says op q)):=by
 refine via fun R hR=>?_
 have HS:Hid (∀ w',Ext w w'→Calls Tryz.prog 71 #[v] w' (Gives w' fun v' _=>v'=.int .i64 q.num.sign)):=fun w' x=>r5sign_any (hv.ext x)
 obtain ⟨s,a,l,c,a',l',c',rfl,-⟩:=hv.op
 clear hv
 unfold says at hR
 generalize q.num.sign=sg at*
 obtain ⟨w1,hw1,b1,c1,-,-⟩:=bx1 w [.bool s,.slice a l c,.slice a' l' c'] 87
 have HW:=Lib.hid hw1
 have C1:=Lib.hid c1
 clear hw1 c1
 go_enter Tryz.func41,Tryz.ntmps41
 go_upto_region 1 with (fail)
 rw [← HW.out]
 clear HW
 obtain ⟨k0,k1,k2⟩:=C1.out.c3
 go_wp2_with fail
 refine (HS.out _ b1).mono ?_
 rintro e w2 ⟨_,rfl,b2,rfl⟩
 clear k0 k1 k2
 have x2:=Ext.trans b1 b2
 have h3:op=1∨op=2∨op=3:=by omega
 rcases h3 with rfl | rfl | rfl
 ·go_wp2_with fail
  exact hR.out _ _ (Gives.mk x2 (by
   show Value.bool _=Value.bool _
   congr 1
   rw [Bool.eq_iff_iff]
   simp
   omega))
 ·go_wp2_with fail
  exact hR.out _ _ (Gives.mk x2 (by
   show Value.bool _=Value.bool _
   congr 1
   simp))
 ·go_wp2_with fail
  exact hR.out _ _ (Gives.mk x2 (by
   show Value.bool _=Value.bool _
   congr 1
   simp))
open Go.RowKit Go.Att

theorem FormT.tak {l:TL} (h:FormT l) (j:Nat):FormT (l.take j):=⟨h.1.sublist (List.take_sublist ..),fun t ht=>h.2 t (List.mem_of_mem_take ht)⟩
theorem cf_form {K:Nat} {l:TL} (h:FormT l) (hs:∀ t∈l,Sz K t.2) (h1:1≤K) (x:Int):Sz K (cf l x):=by
 by_cases h0:∃ t∈l,t.1=x
 ·obtain ⟨t,ht,rfl⟩:=h0
  rw [FormT.at h ht]
  exact hs t ht
 ·rw [cf_none fun t ht he=>h0 ⟨t,ht,he⟩]
  exact Sz.zero.le h1
theorem cfz {a:AT} (h:SzG a) (hc:canA a=(a,0)) (x:Int):Sz 219 (cf a.1.1 x):=cf_form (canT_self hc) h.2.1 (by decide) x
theorem okz {a:AT} (h:SzG a) (hc:canA a=(a,0)):Okx 219 a.1.1 a.1.2:=
 ⟨by have:=h.1;omega,h.2.1,fun x j=>cf_form (FormT.tak (canT_self hc) j) (fun t ht=>h.2.1 t (List.mem_of_mem_take ht)) (by decide) x,h.2.2.le (by decide)⟩
set_option maxRecDepth 100000 in
set_option linter.unusedSimpArgs false in
set_option maxHeartbeats 8000000 in
theorem true14_any {C:World→Value→List Int→Prop} {w:World} {vp vx vb:Value} {p:Pq AT} {l:Int} {X:List Rat} {bs:List Bool} (hp:RdPq OwnB9 C w vp p) (hk:knownL (p.1.2+p.2.1.length) l) (hB0:0≤p.1.2) (hB1:p.1.2≤1000) (hA:p.2.1.length≤1000)
  (hg:∀ a∈p.2.1,SzG a∧canA a=(a,0)) (hop:∀ a∈p.2.1,1≤a.2∧a.2≤3) (hX:RdRow 3 (OwnPp 4) w vx X) (hXs:∀ q∈X,Sz 8 q) (hX6:X.length≤6) (hb:RdB w vb bs):
  Calls Tryz.prog 26 #[vp,.int .i64 l,vx,vb] w (Gives w fun v' _=>v'=.bool (tl (valP ⟨p.1.1,p.1.2,p.2.1,p.2.2⟩ bs X) l)):=by
 refine via fun R hR=>?_
 have HX6:=Lib.hid hX6
 clear hX6
 obtain ⟨a,c,a',c',rfl,hAT,-⟩:=hp
 obtain ⟨⟨pR,pB⟩,ats,cls⟩:=p
 dsimp only at*
 obtain ⟨h0,hm,hkl⟩:=hk
 obtain ⟨n,hn⟩:∃ n:Nat,l.natAbs=n+1:=⟨l.natAbs - 1,by omega⟩
 obtain ⟨nB,rfl⟩:∃ nB:Nat,pB=(nB:Int):=⟨pB.toNat,by omega⟩
 obtain ⟨m,hmm⟩:∃ m:Int,-l=m:=⟨_,rfl⟩
 have hneg:IntKind.i64.wrap (-l)=m:=by rw [IntKind.wrap_i64];omega
 have hmx:IntKind.i64.wrap (max l m - 1)=(n:Int):=by rw [IntKind.wrap_i64,Int.max_def];split <;> omega
 have hmx2:max l m - 1=(n:Int):=by rw [Int.max_def];split <;> omega
 have hwn:wrap64 (n:Int)=(n:Int):=by unfold wrap64;omega
 have HV:Hid (n < nB→tl (valP ⟨pR,nB,ats,cls⟩ bs X) l=(bs.getD n false == decide (0 < l))):=fun h=>by
  unfold tl valP
  dsimp only
  rw [if_pos (by omega),show ((l.natAbs:Int) - 1).toNat=n by omega]
 have HV2:Hid (¬ n < nB→tl (valP ⟨pR,nB,ats,cls⟩ bs X) l=(holdA (gt ats (n - nB)) X == decide (0 < l))):=fun h=>by
  unfold tl valP
  dsimp only
  rw [if_neg (by omega),show ((l.natAbs:Int) - 1 - nB).toNat=n - nB by omega]
 have HKL:Hid (n < nB+ats.length):=by show _ < _;omega
 have HAT:=Lib.hid hAT
 have HG:=Lib.hid hg
 have HOP:=Lib.hid hop
 have HX:=Lib.hid hX
 have HXS:=Lib.hid hXs
 have HB:=Lib.hid hb
 have HB1:=Lib.hid hB1
 clear hAT hg hop hX hXs hb h0 hm hkl hn hB0 hB1 hmm
 generalize tl (valP ⟨pR,nB,ats,cls⟩ bs X) l=ans at*
 obtain ⟨na,hna⟩:∃ na,ats.length=na:=⟨_,rfl⟩
 have HNA:=Lib.hid hna
 have HLA:=Lib.hid hA
 clear hA
 rw [hna] at HAT HKL HLA ⊢
 clear hna
 generalize cls.length=nc at*
 obtain ⟨ax,cx,rfl,-,-⟩:=HX.out.shape
 obtain ⟨ab,cb,rfl,-,-⟩:=HB.out.shape
 obtain ⟨w1,hw1,b1,c1,-,-⟩:=bx1 w [.int .i64 pR,.int .i64 nB,.slice a na c,.slice a' nc c'] 50
 have HW:=Lib.hid hw1
 have C1:=Lib.hid c1
 have X1:=Lib.hid b1
 clear hw1 c1 b1
 obtain ⟨gl,hgl⟩:∃ gl,decide (l > 0)=gl:=⟨_,rfl⟩
 have hgl':decide (0 < l)=gl:=hgl
 rw [hgl'] at HV HV2
 go_enter Tryz.func26,Tryz.ntmps26
 go_upto_region 1 with (fail)
 rw [← HW.out]
 clear HW
 obtain ⟨k0,k1,k2,k3⟩:=C1.out.c4
 by_cases hv:n < nB
 ·have hd:decide ((n:Int) < (nB:Int))=true:=decide_eq_true (by omega)
  have hdN:decide (n < nB)=true:=decide_eq_true hv
  have HA:=Lib.hid (HV.out hv)
  obtain ⟨lb,hlb⟩:∃ lb,bs.length=lb:=⟨_,rfl⟩
  have HLB:=Lib.hid hlb
  rw [hlb] at HB ⊢
  clear hlb HV HV2
  by_cases hs:n < lb
  ·have hd2:decide ((n:Int) < (lb:Int))=true:=decide_eq_true (by omega)
   have hd2N:decide (n < lb)=true:=decide_eq_true hs
   obtain ⟨b,off,he,hc⟩:=RdB.atN (HB.out.ext X1.out) (i:=n) (by rw [HLB.out];exact hs)
   subst he
   generalize bs.getD n false=bv at*
   have HJ2:(0:Int)≤(n:Int)∧(n:Int) < (lb:Int):=⟨by omega,by omega⟩
   go_wp2_with fail
   exact hR.out _ _ (Gives.mk X1.out (by rw [HA.out];first | rfl | (cases gl <;> rfl)))
  ·have hd2:decide ((n:Int) < (lb:Int))=false:=decide_eq_false (by omega)
   have hd2N:decide (n < lb)=false:=decide_eq_false hs
   have HF:Hid (bs.getD n false=false):=by
    have:=HLB.out
    show _=_;rw [List.getD_eq_getElem?_getD,List.getElem?_eq_none (by omega)];rfl
   generalize bs.getD n false=bv at*
   have HF2:=HF.out
   subst HF2
   go_wp2_with fail
   exact hR.out _ _ (Gives.mk X1.out (by rw [HA.out];first | rfl | (cases gl <;> rfl)))
 ·have hd:decide ((n:Int) < (nB:Int))=false:=decide_eq_false (by omega)
  have hdN:decide (n < nB)=false:=decide_eq_false hv
  have HA:=Lib.hid (HV2.out hv)
  obtain ⟨i,hi⟩:∃ i,n - nB=i:=⟨_,rfl⟩
  have hI:IntKind.i64.wrap ((n:Int) - (nB:Int))=(i:Int):=by have:=HB1.out;have:=HLA.out;have:=HKL.out;rw [IntKind.wrap_i64];omega
  have HIL:Hid (i < na):=by have:=HKL.out;show _ < _;omega
  rw [hi] at HA
  clear HV HV2 hi
  have hil:i < ats.length:=by rw [HNA.out];exact HIL.out
  obtain ⟨bA,oA,xa,xk,xs,xb,xm,xd,xb',xm',xd',hae,hbo,hax⟩:=HAT.out.btm i hil
  subst hae
  obtain ⟨u0,u1,u2,u3,u4⟩:=(hbo.ext X1.out).c5
  have HZ:=Lib.hid (HG.out _ (List.getElem_mem hil))
  have HO:=Lib.hid (HOP.out _ (List.getElem_mem hil))
  rw [gt_lt hil] at HA
  have HJ2:(0:Int)≤(i:Int)∧(i:Int) < (na:Int):=⟨by omega,by have:=HIL.out;omega⟩
  have HJ3:(i:Int) < (na:Int):=HJ2.2
  obtain ⟨q,hq⟩:∃ q,ats[i]=q:=⟨_,rfl⟩
  rw [hq] at u0 u4 HZ HO HA hax
  have HOA:Hid (OwnEy 4 186 0 w (.agg #[.slice xa q.1.1.length xk,.bool xs,.slice xb xm xd,.slice xb' xm' xd']) q.1.1 q.1.2):=hax
  clear hq hbo hax hil
  have HEV:Hid (∀ w',Ext w w'→Calls Tryz.prog 42 #[.agg #[.slice xa q.1.1.length xk,.bool xs,.slice xb xm xd,.slice xb' xm' xd'],.slice ax X.length cx] w' (Gives w' fun v' w'=>OwnP 4 0 w' v' (q.1.2+smv (cf q.1.1) X 0))):=fun w' x=>by
   have h:=r8eval_z 219 8 (OwnEy.rd (OwnEy.ext HOA.out x)) (okz HZ.out.1 HZ.out.2) (HX.out.ext OwnP.ext x) HXS.out (fun j hj=>(smv_sz q.1.2 HZ.out.1.2.2 (cfz HZ.out.1 HZ.out.2) HXS.out j hj).le (by have:=HX6.out;omega)) (by decide) (by decide)
   exact h
  have HSY:Hid (∀ w' v,OwnP 4 0 w' v (q.1.2+smv (cf q.1.1) X 0)→Calls Tryz.prog 41 #[.int .i64 q.2,v] w' (Gives w' fun v' _=>v'=.bool (holdA q X))):=fun w' v h=>says9r_any h.rd HO.out
  generalize holdA q X=hv at*
  generalize q.1.2+smv (cf q.1.1) X 0=val at*
  generalize q.1.1.length=lq at*
  generalize q.2=op at*
  generalize X.length=lx at*
  obtain ⟨w2,hw2,b2,c2,-,-⟩:=bx1 w1 [.slice xa lq xk,.bool xs,.slice xb xm xd,.slice xb' xm' xd',.int .i64 op] 112
  have HW:=Lib.hid hw2
  have C2:=Lib.hid c2
  have X2:=Lib.hid (Ext.trans X1.out b2)
  clear hw2 c2 b2
  go_upto_region 6 with fail
  rw [← HW.out]
  clear HW u0 u1 u2 u3 u4 k0 k1 k2 k3
  have b3:=drew_ext w2
  have XE:=b3
  refine wp_region_noPanic ?_
  refine wp_region_held_drew (S:=fun w'=>w'.cell? ⟨w1.heap.size,0,none⟩=some (.slice xa lq xk)∧w'.cell? ⟨w1.heap.size,1,none⟩=some (.bool xs)∧w'.cell? ⟨w1.heap.size,2,none⟩=some (.slice xb xm xd)∧w'.cell? ⟨w1.heap.size,3,none⟩=some (.slice xb' xm' xd')∧w'.cell? ⟨w1.heap.size,4,none⟩=some (.int .i64 op)) (by kernel_rfl) ((C2.out.ext XE).c5) (fun hHeld=>?_)
  refine tkH 0 hHeld ?_
  simp only [jP,jA,jB,jC,jD,jE,jF]
  refine tkH 1 hHeld ?_
  simp only [jP,jA,jB,jC,jD,jE,jF]
  refine tkH 2 hHeld ?_
  simp only [jP,jA,jB,jC,jD,jE,jF]
  refine tkH 3 hHeld ?_
  simp only [jP,jA,jB,jC,jD,jE,jF]
  refine tkH 4 hHeld ?_
  simp only [jP,jA,jB,jC,jD,jE,jF]
  refine rdH 5 (by kernel_rfl) rfl (fun K hK=>?_)
  go_simp
  go_at_call 42;refine (HEV.out _ (Ext.trans X2.out XE)).mono ?_;rintro e w4 ⟨v4,rfl,b4,o4⟩;have O4:=Lib.hid o4;clear o4;(first | have XE:=Ext.trans XE b4 | have XE:=Ext.trans (Ext.trans XE (Ext.alloc _ _)) b4)
  go_wp2_with fail
  refine hK.out _ _ ((C2.out.ext XE).c5) (fun hHeld=>?_)
  clear hK K
  try simp only [jP,jA,jB,jC,jD,jE,jF]
  refine rdH 6 (by kernel_rfl) rfl (fun K hK=>?_)
  go_simp
  go_at_call 41;refine (HSY.out _ _ O4.out).mono ?_;rintro e w5 ⟨_,rfl,b5,rfl⟩;(first | have XE:=Ext.trans XE b5 | have XE:=Ext.trans (Ext.trans XE (Ext.alloc _ _)) b5)
  go_wp2_with fail
  refine hK.out _ _ ((C2.out.ext XE).c5) (fun hHeld=>?_)
  clear hK K
  try simp only [jP,jA,jB,jC,jD,jE,jF]
  refine tkH 7 hHeld ?_
  simp only [jP,jA,jB,jC,jD,jE,jF]
  refine wpAnyH_done (by kernel_rfl) ?_ _
  refine NoPanic.normal ?_
  go_wp2_with fail
  exact hR.out _ _ (Gives.mk (Ext.trans X2.out XE) (by rw [HA.out];rfl))
open Go.RowKit Go.Att

set_option maxRecDepth 100000 in
set_option linter.unusedSimpArgs false in
set_option maxHeartbeats 8000000 in
theorem holds22_any {C:World→Value→List Int→Prop} {w:World} {vp vc vx vb:Value} {p:Pq AT} {c:List Int} {X:List Rat} {bs:List Bool} (hp:RdPq OwnB9 C w vp p) (hC:∀ {w w' v a},C w v a→Ext w w'→C w' v a) (hc:RdRow 1 IntT w vc c) (hk:∀ l∈c,knownL (p.1.2+p.2.1.length) l) (hn:c.length≤1000) (hB0:0≤p.1.2) (hB1:p.1.2≤1000) (hA:p.2.1.length≤1000)
  (hg:∀ a∈p.2.1,SzG a∧canA a=(a,0)) (hop:∀ a∈p.2.1,1≤a.2∧a.2≤3) (hX:RdRow 3 (OwnPp 4) w vx X) (hXs:∀ q∈X,Sz 8 q) (hX6:X.length≤6) (hb:RdB w vb bs):
  Calls Tryz.prog 11 #[vp,vc,vx,vb] w (Gives w fun v' _=>v'=.bool (clsT (valP ⟨p.1.1,p.1.2,p.2.1,p.2.2⟩ bs X) c)):=by
 refine via fun R hR=>?_
 have HTR:Hid (∀ w' l,Ext w w'→l∈c→Calls Tryz.prog 26 #[vp,.int .i64 l,vx,vb] w' (Gives w' fun v' _=>v'=.bool (tl (valP ⟨p.1.1,p.1.2,p.2.1,p.2.2⟩ bs X) l))):=fun w' l x hl=>
  true14_any (hp.ext OwnBt.ext hC x) (hk l hl) hB0 hB1 hA hg hop (hX.ext OwnP.ext x) hXs hX6 (hb.ext x)
 generalize valP ⟨p.1.1,p.1.2,p.2.1,p.2.2⟩ bs X=V at*
 obtain ⟨aa,ca,aq,cq,rfl,-,-⟩:=hp
 obtain ⟨ac,kc,rfl,-,-⟩:=hc.shape
 obtain ⟨ax,kx,rfl,-,-⟩:=hX.shape
 obtain ⟨ab,kb,rfl,-,-⟩:=hb.shape
 have HC:=Lib.hid hc
 have HN:=Lib.hid hn
 obtain ⟨⟨pR,pB⟩,ats,cls⟩:=p
 dsimp only at*
 clear hX hb hc hk hn hB0 hB1 hA hg hop hXs hX6
 generalize ats.length=na at*
 generalize cls.length=nc at*
 generalize X.length=nx at*
 generalize bs.length=nb at*
 obtain ⟨n,hnc⟩:∃ n,c.length=n:=⟨_,rfl⟩
 have HNC:=Lib.hid hnc
 rw [hnc] at HC HN ⊢
 clear hnc
 obtain ⟨w1,hw1,b1,c1,-,-⟩:=bx1 w [.int .i64 pR,.int .i64 pB,.slice aa na ca,.slice aq nc cq] 50
 have HW:=Lib.hid hw1
 have C1:=Lib.hid c1
 have B1:=Lib.hid b1
 clear hw1 c1 b1
 go_enter Tryz.func11,Tryz.ntmps11
 go_upto_region 2 with (fail)
 rw [← HW.out]
 clear HW
 go_loopw [13] (fun t wr=>∃ j:Nat,t=.int .i64 j∧j≤n∧Hid (Ext w1 wr)∧Hid ((c.take j).any (tl V)=false)) (fun t _=>n - (intOf t).toNat)
 case atStart=>exact ⟨0,rfl,Nat.zero_le _,Lib.hid (Ext.refl _),by rw [List.take_zero];exact Lib.hid rfl⟩
 case round=>
  obtain ⟨j,rfl,hj,hX,hP⟩:=hrel
  obtain ⟨w4,hw4⟩:∃ w0:World,w0=wr:=⟨_,rfl⟩
  subst hw4
  have X04:=Lib.hid (Ext.trans B1.out hX.out)
  by_cases hjn:j < n
  ·have hd:decide ((j:Int) < (n:Int))=true:=decide_eq_true (by omega)
   have HJ1:IntKind.i64.wrap ((j:Int)+1)=((j+1:Nat):Int):=by have:=HN.out;rw [IntKind.wrap_i64];omega
   have HJ2:(0:Int)≤(j:Int)∧(j:Int) < (n:Int):=⟨by omega,by omega⟩
   have hjl:j < c.length:=by rw [HNC.out];exact hjn
   obtain ⟨b8,o8,he8,hc8⟩:=(HC.out.ext IntT.ext X04.out).intAt j hjl
   subst he8
   have HAT:Hid ((c.take (j+1)).any (tl V)=tl V c[j]):=by show _=_;rw [any_take hjl,hP.out];rfl
   have HBAD:Hid (tl V c[j]=true→clsT V c=true):=fun h=>List.any_eq_true.2 ⟨_,List.getElem_mem hjl,h⟩
   have HTC:=Lib.hid (fun w' x=>HTR.out w' c[j] x (List.getElem_mem hjl))
   generalize tl V c[j]=tb at*
   generalize c[j]=l at*
   clear hjl
   obtain ⟨k0,k1,k2,k3⟩:=(C1.out.ext hX.out).c4
   cases tb with
   | true=>
    have HB:=Lib.hid (HBAD.out rfl)
    go_wp2_with (go_at_call 26;refine (HTC.out _ X04.out).mono ?_;rintro e w8 ⟨_,rfl,X8,rfl⟩;have X8:=Lib.hid X8)
    exact hR.out _ _ (Gives.mk (Ext.trans X04.out X8.out) (by rw [HB.out];rfl))
   | false=>
    go_wp2_with (go_at_call 26;refine (HTC.out _ X04.out).mono ?_;rintro e w8 ⟨_,rfl,X8,rfl⟩;have X8:=Lib.hid X8)
    go_roundw
    case rel=>exact ⟨j+1,by go_num,by omega,Ext.trans hX.out X8.out,HAT⟩
    case measure=>simp [intOf] <;> omega
  ·obtain rfl:j=n:=by omega
   have hd:decide ((j:Int) < (j:Int))=false:=decide_eq_false (by omega)
   have HF:Hid (clsT V c=false):=by
    have:=hP.out
    rwa [List.take_of_length_le (by rw [HNC.out];exact Nat.le_refl _)] at this
   clear hP
   go_wp2_with fail
   exact hR.out _ _ (Gives.mk X04.out (by rw [HF.out];rfl))
end Go.Proofs.YtdooldpgnjmpfaaGreatDoor
