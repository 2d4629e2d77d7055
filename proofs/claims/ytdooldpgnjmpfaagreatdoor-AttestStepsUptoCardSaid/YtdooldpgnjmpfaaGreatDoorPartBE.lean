/- A group of texts: PLinClone, PLinSortNil, PLinCanon, PLinVar, PLinCoef, PLinScale, PLinAdd, PLinSub, PLinSame -/
import Derived.Test.YtdooldpgnjmpfaaGreatDoorSq
import Derived.Test.YtdooldpgnjmpfaaGreatDoorPartAG
import Derived.Test.YtdooldpgnjmpfaaGreatDoorPartAF
import Derived.Lib.SliceRun
import Derived.Test.YtdooldpgnjmpfaaGreatDoorPartBD
namespace Go.Proofs.YtdooldpgnjmpfaaGreatDoor
open Go.RowKit Go.Att

theorem etTm:ElemT Tryz.prog 56 90 (.agg #[.int .i64 0,.bool false,.slice none 0 0,.slice none 0 0]) 4 64:=ElemT.mk' Tryz.underlying56 (by kernel_rfl) rfl (by decide)
set_option maxRecDepth 100000 in
theorem clone_any {w:World} {a:Option Addr} {n c:Nat} {xs:List Value} (h:RdV w (.slice a n c) 4 n xs) (hone:∀ u∈xs,u.oneCell'=true) (hn:n≤100000):
  Calls Tryz.prog 84 #[.slice a n c] w (Gives w fun v' w'=>w'.ownsRow w.heap.size 90 4 v' n xs):=by
 refine via fun R hR=>?_
 have hnil:∀ (w:World) (a:Option Addr) (n c:Nat),(binOp .eql 56 (.slice a n c) (.slice none 0 0)).run Tryz.prog w=.ok (.bool a.isNone) w:=fun w a n c=>Lib.run_eql_slice_nil w 56 90 a n c 0 0 (by kernel_rfl)
 have HV:=Lib.hid h
 have HO:=Lib.hid hone
 cases a with
 | none=>
  have hc:c=0:=by
   obtain ⟨_,a',c',hv,_,_,h3,_⟩:=h
   simp only [Value.slice.injEq] at hv
   obtain ⟨rfl,_,rfl⟩:=hv
   exact h3 rfl
  have hn0:n=0:=by
   obtain ⟨_,a',c',hv,h1,_⟩:=h
   simp only [Value.slice.injEq] at hv
   obtain ⟨_,_,rfl⟩:=hv
   omega
  have hx:xs=[]:=List.eq_nil_of_length_eq_zero (by rw [h.1,hn0])
  subst hc hn0
  clear h hone
  go_enter Tryz.func84,Tryz.ntmps84
  go_wp2_with fail
  exact hR.out _ _ (Gives.mk (Ext.refl _) ⟨by rw [hx];rfl,.inl ⟨rfl,rfl⟩⟩)
 | some ad=>
  clear h hone
  go_enter Tryz.func84,Tryz.ntmps84
  go_wp2_with (at_builtin;refine append_rd etTm (by rfl) _ _ (by rfl) w.heap.size (by rfl) (World.ownsRow_lit w #[] 0 (Nat.le_refl _) (Nat.zero_le _) (by simp)) (by rfl) (HV.out.ext (Ext.alloc _ _)) HO.out (by omega) (by unfold maxLen;omega) (by simp) ?_;intro v9 w9 o9 b9 g9)
  exact hR.out _ _ (Gives.mk (Below.trans (Ext.alloc _ _) b9) (by simpa using o9))
open Go.RowKit Go.Att

theorem insort_nil {w:World} {v F:Value}:
  Calls Tryz.prog 133 #[v,.int .i64 0,.int .i64 0,F] w fun e w'=>e=.returned (.tuple #[])∧w'=w:=by
 refine via fun R hR=>?_
 go_enter Tryz.func133,Tryz.ntmps133
 go_wp2_with fail
 go_loopw [8] (fun s wr=>s=.int .i64 1∧w=wr) (fun _ _=>0)
 case atStart=>exact ⟨rfl,rfl⟩
 case round=>
  obtain ⟨rfl,rfl⟩:=hrel
  go_wp2_with fail
  go_end0
  exact hR.out _ _ ⟨rfl,rfl⟩
theorem sortst_nil {w:World} {F:Value}:
  Calls Tryz.prog 85 #[.slice none 0 0,F] w fun e w'=>e=.returned (.tuple #[])∧w'=w:=by
 refine via fun R hR=>?_
 have HS:Hid (Calls Tryz.prog 110 #[.slice none 0 0,.int .i64 0,F] w fun e w'=>e=.returned (.tuple #[])∧w'=w):=by
  show Calls _ _ _ _ _
  refine via fun R hR=>?_
  go_enter Tryz.func110,Tryz.ntmps110
  go_wp2_with fail
  go_loopw [7,8] (fun s t wr=>s=.int .i64 0∧t=.int .i64 20∧w=wr) (fun _ _ _=>0)
  case atStart=>exact ⟨rfl,rfl,rfl⟩
  case round=>
   obtain ⟨rfl,rfl,rfl⟩:=hrel
   go_wp2_with fail
   refine insort_nil.mono ?_
   rintro e w1 ⟨rfl,rfl⟩
   go_wp2_with fail
   go_loopw [6] (fun s wr=>s=.int .i64 20∧w1=wr) (fun _ _=>0)
   case atStart=>exact ⟨rfl,rfl⟩
   case round=>
    obtain ⟨rfl,rfl⟩:=hrel
    go_wp2_with fail
    go_end0
    exact hR.out _ _ ⟨rfl,rfl⟩
 go_enter Tryz.func85,Tryz.ntmps85
 go_wp2_with fail
 refine HS.out.mono ?_
 rintro e w1 ⟨rfl,rfl⟩
 go_wp2_with fail
 go_end0
 exact hR.out _ _ ⟨rfl,rfl⟩
theorem sorted_any {w w1:World} {v:Value} {l:TL} {E:List (List Value)} (hp:Pw 4 (fun c t=>OwnTm 119 w (.agg c.toArray) t) E l) (hw:Ext w w1) (ho:w1.ownsRow w.heap.size 90 4 v l.length E.flatten) (hl:l.length≤100000):
  Calls Tryz.prog 85 #[v,.func (.func 86) #[] #[]] w1 fun e w'=>e=.returned (.tuple #[])∧Ext w w'∧∃ l':TL,l'.Perm l∧Srt l'∧RdRow 4 (OwnTm 119) w' v l':=by
 have hE:∀ c∈E,Tm c:=fun c hc=>by
  obtain ⟨i,hi,he⟩:=List.getElem_of_mem hc
  obtain ⟨-,h⟩:=hp.gt i hi
  rw [gt_lt hi,he] at h
  obtain ⟨s,a,l,c,a',l',c',rfl,-⟩:=cells_T h
  exact ⟨_,_,_,_,_,_,_,_,rfl⟩
 rcases ho.2 with ⟨hv,h0⟩ | ⟨g,cap,cur,hv,hb,hg,hnc,hcm,hcs,ht⟩
 ·subst hv
  obtain rfl:l=[]:=List.eq_nil_of_length_eq_zero h0
  refine sortst_nil.mono ?_
  rintro e w' ⟨rfl,rfl⟩
  exact ⟨rfl,hw,[],List.Perm.refl _,fun p q _ h=>by simp at h,[],RdV.nil _ _,trivial⟩
 ·subst hv
  obtain ⟨h1,h2,h3⟩:=Sl.of_owns ho hE
  have h:=sortst_any (cap:=cap) h3 (by omega)
  rw [h1] at h
  refine h.mono ?_
  rintro e w' ⟨rfl,hB,E',hW,hS,hU⟩
  obtain ⟨l',p1,p2⟩:=Pw.perm (hW.perm (Nat.le_of_eq h1.symm)) hp
  have hx:Ext w w':=Below.trans hw (hB.mono h2)
  have hlen:E'.length=l'.length:=p2.len
  have hll:l'.length=l.length:=p1.length_eq
  have hkey:∀ i,i < E'.length→keyT (gt E' i)=(gt l' i).1:=fun i hi=>by
   obtain ⟨-,h⟩:=p2.gt i hi
   obtain ⟨s,a,l,c,a',l',c',he,-⟩:=cells_T h
   rw [he];rfl
  refine ⟨rfl,hx,l',p1,fun p q h4 h5=>?_,hS.row hll hnc hcm (p2.mono fun c t h=>OwnTm.ext h hx)⟩
  rw [← hkey p (by omega),← hkey q (by omega)]
  exact hU p q (Nat.zero_le _) h4 (by omega)
open Go.RowKit Go.Att

abbrev RdX (w:World) (v:Value) (l:TL) (c:Rat):Prop:=RdEx 119 w v l c
abbrev OwnX (B:Nat) (w:World) (v:Value) (l:TL) (c:Rat):Prop:=OwnEx 119 90 B w v l c
set_option linter.unusedSimpArgs false in
set_option maxHeartbeats 4000000 in
set_option maxRecDepth 100000 in
theorem canon_any {w:World} {v:Value} {l:TL} {c:Rat} (L:Nat) (hv:RdX w v l c) (hs:∀ t∈l,Sz L t.2) (hl:l.length≤1000) (hL:L≤9990):
  Calls Tryz.prog 48 #[v] w (Gives w fun v' w'=>∃ l',Canl l l'∧(∀ t∈l',Sz (l.length*(L+1)+1) t.2)∧l'.length≤l.length∧OwnX w.heap.size w' v' l' c):=by
 refine via fun R hR=>?_
 have HS:=Lib.hid hs
 obtain ⟨a,k,s,b,m,d,b',m',d',rfl,hlk,hkm,HRW,HRC⟩:=hv.op
 clear hv hs
 obtain ⟨w1,hw1,b1,c1,c2,r1,r2,z1⟩:=bx2 w [.slice a l.length k,.bool s,.slice b m d,.slice b' m' d'] [.slice none 0 0,.bool false,.slice none 0 0,.slice none 0 0] 61 61
 have HW:=Lib.hid hw1
 have C1:=Lib.hid c1
 have R2:Hid (Rt w1 (w.heap.size+1) 4 61):=by
  show Rt _ _ _ _
  rw [hw1]
  have:=Rt.new (w.alloc (.cells #[.slice a l.length k,.bool s,.slice b m d,.slice b' m' d'] 61)) [.slice none 0 0,.bool false,.slice none 0 0,.slice none 0 0] 61
  simpa using this
 clear c1 c2 r1 r2 hw1
 have hc1:=C1.out.c1
 go_enter Tryz.func48,Tryz.ntmps48
 go_upto_region 1 with (fail)
 rw [← HW.out]
 clear HW
 obtain ⟨E,HRE⟩:∃ E:List (List Value),Hid (RdV w (.slice a l.length k) 4 l.length E.flatten∧Pw 4 (fun c t=>OwnTm 119 w (.agg c.toArray) t) E l):=HRW.out
 have HCL:Hid (Calls Tryz.prog 84 #[.slice a l.length k] w1 (Gives w1 fun v' w'=>w'.ownsRow w1.heap.size 90 4 v' l.length E.flatten)):=clone_any (HRE.out.1.ext b1) (fun u hu=>by
  obtain ⟨c,hc,hu⟩:=List.mem_flatten.1 hu
  obtain ⟨i,hi,he⟩:=List.getElem_of_mem hc
  obtain ⟨-,h⟩:=HRE.out.2.gt i hi
  rw [gt_lt hi,he] at h
  exact (kdT (e:=119) (e':=90) (by decide)).one h u hu) (by omega)
 go_wp2_with fail
 refine HCL.out.mono ?_
 rintro e w2 ⟨v2,rfl,b2,o2⟩
 have O2:=Lib.hid o2
 clear o2 HCL hc1
 have HSO:=Lib.hid (sorted_any (w1:=w2) (l:=l) (HRE.out.2.mono fun c t h=>OwnTm.ext h b1) b2 O2.out (by omega))
 obtain ⟨a2,k2,rfl⟩:∃ a2 k2,v2=.slice a2 l.length k2:=by
  rcases O2.out.2 with ⟨h,h0⟩ | ⟨g,cap,cur,h,-⟩
  ·exact ⟨none,0,by rw [h,h0]⟩
  ·exact ⟨_,_,h⟩
 go_wp2_with fail
 refine HSO.out.mono ?_
 rintro e w3 ⟨rfl,hx3,l',hpm,hso,hrow⟩
 have HT:=Lib.hid hrow
 have hll:=hpm.length_eq
 have HSL:Hid (∀ t∈l',Sz L t.2):=perm_at hpm HS.out
 have HPM:=Lib.hid hpm
 have HSR:=Lib.hid hso
 rw [← hll] at HT ⊢
 have HLL:=Lib.hid hll
 clear HSO O2 HRE HRW hrow hpm hso HS
 have hl9:l'.length≤1000:=by omega
 clear hll
 have b13:Ext w1 w3:=hx3
 go_wp2_with fail
 go_loopw [4,5] (fun o i wr=>∃ (j:Nat) (ol:TL),i=.int .i64 j∧j≤l'.length∧Ext w3 wr∧Hid (OwnRow 4 (OwnTm 119) 90 w3.heap.size wr o ol)∧Hid (Part L l' j ol)) (fun _ i _=>l'.length - (intOf i).toNat)
 case atStart=>exact ⟨0,[],rfl,Nat.zero_le _,Ext.refl _,OwnRow.nil _ _ _,Part.nil _ _⟩
 case round=>
  obtain ⟨i,ol,rfl,hi,hx,hO,hP⟩:=hrel
  obtain ⟨ao,ko,rfl,hok,hokm⟩:=hO.out.rd.shape
  by_cases hin:i < l'.length
  ·have hd:decide ((i:Int) < (l'.length:Int))=true:=decide_eq_true (by omega)
   obtain ⟨bT,oT,rfl⟩:=HT.out.some_at hin
   obtain ⟨sx,ax,lx,mx,ay,ly,my,hB4,hQ4⟩:=HT.out.tm i hin
   have hI1:IntKind.i64.wrap (i:Int)=(i:Int):=by rw [IntKind.wrap_i64];omega
   have hI2:(0:Int)≤(i:Int)∧(i:Int) < (l'.length:Int):=⟨by omega,by omega⟩
   go_upto_region 7 with (fail)
   obtain ⟨w4,hw4,b4,hC4,hz4⟩:∃ W,W=wr.alloc (.cells #[.bool false,.slice none 0 0,.slice none 0 0] 59)∧Ext wr W∧Bq 119 59 W wr.heap.size 0∧W.heap.size=wr.heap.size+1:=⟨_,rfl,Ext.alloc _ _,Bq.new (ownq_nil _ _),by simp⟩
   have HW:=Lib.hid hw4
   rw [← HW.out]
   clear HW hw4
   obtain ⟨u0,u1,u2,u3⟩:=hB4.ext (Ext.trans hx b4)
   obtain ⟨v,hv⟩:∃ v,(gt l' i).1=v:=⟨_,rfl⟩
   have HV:=Lib.hid hv
   rw [hv] at u0
   clear hv hB4 hQ4
   have h3r:=hx.size
   obtain ⟨BC,hBC⟩:∃ BC,wr.heap.size=BC:=⟨_,rfl⟩
   rw [hBC] at hC4 ⊢
   have hBC3:w3.heap.size≤BC:=by omega
   clear hBC
   have HO4:=Lib.hid (hO.out.ext OwnTm.ext b4)
   go_wp2_with fail
   clear u0 u1 u2 u3
   go_loopw [5] (fun t wx=>∃ (j:Nat) (q:Rat),t=.int .i64 j∧i≤j∧j≤l'.length∧(j=i→wx=w4)∧Ext w3 wx∧Hid (Bq 119 59 wx BC q)∧Hid (OwnRow 4 (OwnTm 119) 90 w3.heap.size wx (.slice ao ol.length ko) ol)∧Hid (∀ u,cf (l'.take j) u=cf (l'.take i) u+if v=u then q else 0)∧Hid (Sz ((j - i)*(L+1)+1) q)) (fun t _=>l'.length - (intOf t).toNat)
   case atStart=>exact ⟨i,0,rfl,Nat.le_refl _,hi,fun _=>rfl,Ext.trans hx b4,hC4,HO4.out,cf_start,by rw [Nat.sub_self,Nat.zero_mul,Nat.zero_add];exact Sz.zero⟩
   case round=>
    clear hO HO4 hC4
    obtain ⟨j,q,rfl,hij,hjn,-,hx5,hC,hO,hCF,hSZ⟩:=hrel
    obtain ⟨w5,rfl⟩:∃ w0:World,w0=wr:=⟨_,rfl⟩
    have hbig:∀ j,j≤l'.length→(j - i)*(L+1)+1≤10000000:=fun j h=>by
     have h1:(j - i)*(L+1)≤1000*9991:=Nat.mul_le_mul (by omega) (by omega)
     omega
    have hstep:∀ j,i≤j→(j - i)*(L+1)+1+L+1≤(j+1 - i)*(L+1)+1:=fun j h=>by
     rw [show j+1 - i=(j - i)+1 by omega,Nat.succ_mul]
     omega
    by_cases hjl:j < l'.length
    ·have hd2:decide ((j:Int) < (l'.length:Int))=true:=decide_eq_true (by omega)
     have hd3:decide (j < l'.length)=true:=decide_eq_true hjl
     obtain ⟨sx,ax,lx,mx,ay,ly,my,hB4,hQ4⟩:=HT.out.tm j hjl
     obtain ⟨u0,u1,u2,u3⟩:=hB4.ext hx5
     have hJ1:IntKind.i64.wrap (j:Int)=(j:Int):=by rw [IntKind.wrap_i64];omega
     have hJ2:(0:Int)≤(j:Int)∧(j:Int) < (l'.length:Int):=⟨by omega,by omega⟩
     obtain ⟨x,hxx⟩:∃ x,(gt l' j).1=x:=⟨_,rfl⟩
     have HXX:=Lib.hid hxx
     rw [hxx] at u0
     clear hxx
     by_cases hxv:x=v
     ·subst hxv
      have hq6:Hid (OwnQ 119 0 w5 (.agg #[.bool sx,.slice ax lx mx,.slice ay ly my]) (gt l' j).2):=OwnQ.ext hQ4 hx5
      have hSJ:Hid (Sz L (gt l' j).2):=HSL.out _ (by rw [gt_lt hjl];exact List.getElem_mem hjl)
      have hCN:=Lib.hid (cf_next hjl HXX.out hCF.out)
      obtain ⟨s0,e1,n1,g1,e2,n2,g2,T1,T2,T3⟩:=hC.out.op
      have D4:Hid (Box4 w5 bT (oT+j*4) (.int .i64 x) (.bool sx) (.slice ax lx mx) (.slice ay ly my)):=⟨u0,u1,u2,u3⟩
      go_wp2_with fail
      clear u0 u1 u2 u3 hB4 hQ4
      have b6:=drew_ext w5
      have XE:=b6
      refine wp_region_noPanic ?_
      refine wp_region_last_drew (st:=7) (S:=fun w'=>(w'.cell? ⟨BC,0,none⟩=some (.bool s0)∧w'.cell? ⟨BC,1,none⟩=some (.slice e1 n1 g1)∧w'.cell? ⟨BC,2,none⟩=some (.slice e2 n2 g2))∧(w'.cell? ⟨bT,oT+j*4,none⟩=some (.int .i64 x)∧w'.cell? ⟨bT,oT+j*4+1,none⟩=some (.bool sx)∧w'.cell? ⟨bT,oT+j*4+2,none⟩=some (.slice ax lx mx)∧w'.cell? ⟨bT,oT+j*4+3,none⟩=some (.slice ay ly my))) (by kernel_rfl) (⟨(T1.out.ext XE).c3,D4.out.ext XE⟩) (fun hHeld=>?_)
      refine tkL 0 hHeld ?_
      simp only [jP,jA,jB,jC,jD,jE,jF]
      refine tkL 1 hHeld ?_
      simp only [jP,jA,jB,jC,jD,jE,jF]
      refine tkL 2 hHeld ?_
      simp only [jP,jA,jB,jC,jD,jE,jF]
      refine tkL 3 hHeld ?_
      simp only [jP,jA,jB,jC,jD,jE,jF]
      refine tkL 4 hHeld ?_
      simp only [jP,jA,jB,jC,jD,jE,jF]
      refine tkL 5 hHeld ?_
      simp only [jP,jA,jB,jC,jD,jE,jF]
      refine rdL 6 (by kernel_rfl) rfl (fun K hK=>?_)
      go_simp
      go_at_call 87;refine (radd_any (T3.out.rd.ext XE) (hq6.out.rd.ext XE) (hSZ.out.le (hbig j hjn)) (hSJ.out.le (by omega))).mono ?_;rintro e w7 ⟨v7,rfl,b7,o7⟩;have O7:=Lib.hid o7;clear o7;(first | have XE:=Ext.trans XE b7 | have XE:=Ext.trans (Ext.trans XE (Ext.alloc _ _)) b7);obtain ⟨_,_,_,_,_,_,_,rfl,P7⟩:=O7.out.op
      go_wp2_with fail
      refine hK.out _ _ (⟨(T1.out.ext XE).c3,D4.out.ext XE⟩) (fun hHeld=>?_)
      clear hK K
      try simp only [jP,jA,jB,jC,jD,jE,jF]
      obtain ⟨_,_,_,j0,j1,j2,i0,i1,i2⟩:=(T2.out.ext XE).rm.c3
      refine wpAnyL_ready (rs:=[7]) (by kernel_rfl) (by simp) ?_
      refine AllReadyL.last (o:=_) rfl (fun K hK=>?_)
      go_simp
      refine hK.out _ _ ?_
      clear hK K
      try simp only [jP,jA,jB,jC,jD,jE,jF]
      refine wpAnyL_done (by kernel_rfl) ?_ _
      refine NoPanic.normal ?_
      go_wp2_with fail
      go_roundw
      case rel=>exact ⟨j+1,q+(gt l' j).2,by go_num,by omega,by omega,fun h=>by omega,put3_below (Ext.trans hx5 XE) hBC3 _ _ _,Bq.set (T2.out.ext XE) (by decide) (P7.out.mono (Nat.zero_le _)),(hO.out.ext OwnTm.ext XE).putT (T2.out.ext XE) (by decide) 0 [_,_,_] (fun v a h=>h.putT (T2.out.ext XE) (by decide) 0 [_,_,_]),hCN.out,(hSZ.out.add hSJ.out).le (hstep j hij)⟩
      case measure=>simp [intOf] <;> omega
     ·have hxd:(x == v)=false:=beqF hxv
      have hij1:i < j:=by
       refine Nat.lt_of_le_of_ne hij fun h=>hxv ?_
       rw [← HXX.out,← h,HV.out]
      have HKE:Hid (j < l'.length→(gt l' j).1≠v):=fun _=>by rw [HXX.out];exact hxv
      obtain ⟨s0,e1,n1,g1,e2,n2,g2,T1,T2,T3⟩:=hC.out.op
      obtain ⟨k0,k1,k2⟩:=T1.out.c3
      by_cases hq0:q=0
      ·subst hq0
       have HSG:Hid (∀ w v,RdQ w v 0→Calls Tryz.prog 69 #[v] w (Gives w fun v' _=>v'=.int .i64 0)):=fun w v h=>rsign_any h
       go_wp2_with fail
       refine (HSG.out _ _ T3.out.rd).mono ?_
       rintro e w6 ⟨_,rfl,b6,rfl⟩
       clear k0 k1 k2
       go_wp2_with fail
       go_roundw
       case rel=>exact ⟨j,ol,rfl,hjn,Ext.trans hx5 b6,hO.out.ext OwnTm.ext b6,hP.out.skip hij1 hCF.out⟩
       case measure=>simp [intOf] <;> omega
      ·have hne:(q.num.sign != 0)=true:=bneT fun h=>hq0 (by
        rw [Int.sign_eq_zero_iff_zero,Rat.num_eq_zero] at h
        exact h)
       have HSG:Hid (∀ w v,RdQ w v q→Calls Tryz.prog 69 #[v] w (Gives w fun v' _=>v'=.int .i64 q.num.sign)):=fun w v h=>rsign_any h
       have HPN:Hid (Part L l' (j) (ol ++ [(v,q)])):=hP.out.snoc hij1 hjn HV.out HSR.out HKE.out hCF.out hq0 (hSZ.out.le (by
        have:=Nat.mul_le_mul_right (L+1) (show j - i≤l'.length by omega)
        omega))
       have hol:=hP.out.2.2.2.2
       generalize q.num.sign=sg at*
       go_wp2_with fail
       refine (HSG.out _ _ T3.out.rd).mono ?_
       rintro e w6 ⟨_,rfl,b6,rfl⟩
       clear k0 k1 k2
       obtain ⟨k0,k1,k2⟩:=(T1.out.ext b6).c3
       have b36:=Ext.trans hx5 b6
       have hO6:=Lib.hid (hO.out.ext OwnTm.ext b6)
       go_wp2_with (at_builtin;refine append_rowL (y:=(v,q)) etTm (kdT (e:=119) (by decide)) (by rfl) _ _ (by rfl) w3.heap.size (by rfl) _ (by rfl) hO6.out rfl ⟨_,_,_,rfl,T3.out.ext b6⟩ (Below.size b36) (by omega) (by unfold maxLen;omega) ?_;intro v9 w9 o9 b9 g9)
       go_roundw
       case rel=>exact ⟨j,_,rfl,hjn,Below.trans b36 b9,o9,HPN.out⟩
       case measure=>simp [intOf] <;> omega
    ·obtain rfl:j=l'.length:=by omega
     have hd2:decide ((l'.length:Int) < (l'.length:Int))=false:=decide_eq_false (by omega)
     have hij1:i < l'.length:=hin
     have HKE:Hid (l'.length < l'.length→(gt l' l'.length).1≠v):=fun h=>by omega
     obtain ⟨s0,e1,n1,g1,e2,n2,g2,T1,T2,T3⟩:=hC.out.op
     obtain ⟨k0,k1,k2⟩:=T1.out.c3
     by_cases hq0:q=0
     ·subst hq0
      have HSG:Hid (∀ w v,RdQ w v 0→Calls Tryz.prog 69 #[v] w (Gives w fun v' _=>v'=.int .i64 0)):=fun w v h=>rsign_any h
      go_wp2_with fail
      refine (HSG.out _ _ T3.out.rd).mono ?_
      rintro e w6 ⟨_,rfl,b6,rfl⟩
      clear k0 k1 k2
      go_wp2_with fail
      go_roundw
      case rel=>exact ⟨l'.length,ol,rfl,hjn,Ext.trans hx5 b6,hO.out.ext OwnTm.ext b6,hP.out.skip hij1 hCF.out⟩
      case measure=>simp [intOf] <;> omega
     ·have hne:(q.num.sign != 0)=true:=bneT fun h=>hq0 (by
       rw [Int.sign_eq_zero_iff_zero,Rat.num_eq_zero] at h
       exact h)
      have HSG:Hid (∀ w v,RdQ w v q→Calls Tryz.prog 69 #[v] w (Gives w fun v' _=>v'=.int .i64 q.num.sign)):=fun w v h=>rsign_any h
      have HPN:Hid (Part L l' (l'.length) (ol ++ [(v,q)])):=hP.out.snoc hij1 hjn HV.out HSR.out HKE.out hCF.out hq0 (hSZ.out.le (by
       have:=Nat.mul_le_mul_right (L+1) (show l'.length - i≤l'.length by omega)
       omega))
      have hol:=hP.out.2.2.2.2
      generalize q.num.sign=sg at*
      go_wp2_with fail
      refine (HSG.out _ _ T3.out.rd).mono ?_
      rintro e w6 ⟨_,rfl,b6,rfl⟩
      clear k0 k1 k2
      obtain ⟨k0,k1,k2⟩:=(T1.out.ext b6).c3
      have b36:=Ext.trans hx5 b6
      have hO6:=Lib.hid (hO.out.ext OwnTm.ext b6)
      go_wp2_with (at_builtin;refine append_rowL (y:=(v,q)) etTm (kdT (e:=119) (by decide)) (by rfl) _ _ (by rfl) w3.heap.size (by rfl) _ (by rfl) hO6.out rfl ⟨_,_,_,rfl,T3.out.ext b6⟩ (Below.size b36) (by omega) (by unfold maxLen;omega) ?_;intro v9 w9 o9 b9 g9)
      go_roundw
      case rel=>exact ⟨l'.length,_,rfl,hjn,Below.trans b36 b9,o9,HPN.out⟩
      case measure=>simp [intOf] <;> omega
  ·obtain rfl:i=l'.length:=by omega
   have hd:decide ((l'.length:Int) < (l'.length:Int))=false:=decide_eq_false (by omega)
   have b1r:Ext w1 wr:=Ext.trans b13 hx
   have b0r:Ext w wr:=Ext.trans b1 b1r
   have RR:=Lib.hid (R2.out.ext b1r)
   have hPD:=Lib.hid hP.out.done
   have h03:w.heap.size≤w3.heap.size:=Below.size (Ext.trans b1 b13)
   obtain ⟨k0,k1,k2,k3⟩:=(C1.out.ext b1r).c4
   obtain ⟨_,_,_,_,j0,j1,j2,j3,i0,i1,i2,i3⟩:=RR.out.c4
   go_wp2_with fail
   refine bodyPost_ret (v:=.agg #[.slice ao ol.length ko,.bool s,.slice b m d,.slice b' m' d']) (by simp [results,Tryz.results48,go_sem,j0,j1,j2,j3]) rfl ?_
   exact hR.out _ _ (Gives.mk (put4_below b0r (by omega) _ _ _ _ _) ⟨ol,⟨hPD.out.1.1,fun v=>(hPD.out.1.2 v).trans (cf_perm HPM.out v)⟩,by rw [← HLL.out];exact hPD.out.2,by have:=hP.out.2.2.2.2;rw [← HLL.out];exact this,_,_,_,_,rfl,(hO.out.mono h03).putT RR.out (by decide) 0 [_,_,_,_] (fun v a h=>h.putT RR.out (by decide) 0 [_,_,_,_]),(HRC.out.ext b0r).putT RR.out (by decide) 0 [_,_,_,_]⟩)
open Go.RowKit Go.Att

open Go.RowKit Go.Att

theorem cf_snoc {l:TL} {j:Nat} (hj:j < l.length) (x:Int):cf (l.take (j+1)) x=cf (l.take j) x+if (gt l j).1=x then (gt l j).2 else 0:=by
 rw [← List.take_append_getElem hj,cf_app,cf_one,← gt_lt hj]
theorem cf_sz {L:Nat} {l:TL} (h:∀ t∈l,Sz L t.2) (x:Int):Sz (l.length*(L+1)+1) (cf l x):=by
 induction l with
 | nil=>exact Sz.zero.le (by omega)
 | cons t l ih=>
  have h1:=ih fun u hu=>h u (List.mem_cons_of_mem _ hu)
  show Sz _ (_+cf l x)
  rw [List.length_cons,Nat.succ_mul]
  by_cases ht:t.1=x
  ·rw [if_pos ht]
   exact ((h t List.mem_cons_self).add h1).le (by omega)
  ·rw [if_neg ht,Rat.zero_add]
   exact h1.le (by omega)
theorem cf_take_sz {L:Nat} {l:TL} (h:∀ t∈l,Sz L t.2) (j:Nat) (x:Int):Sz (l.length*(L+1)+1) (cf (l.take j) x):=
 (cf_sz (fun t ht=>h t (List.mem_of_mem_take ht)) x).le (by
  have h1:(l.take j).length≤l.length:=by rw [List.length_take];omega
  have:=Nat.mul_le_mul_right (L+1) h1
  omega)
open Go.RowKit Go.Att

theorem if_wantedL {c:Prop} [Decidable c] {A B:Prop} (h:c) (k:A):if c then A else B:=by rw [if_pos h];exact k
def scT (r:Rat) (t:Int × Rat):Int × Rat:=(t.1,r*t.2)
theorem cf_scale (r:Rat) (l:TL) (x:Int):cf (l.map (scT r)) x=r*cf l x:=by
 induction l with
 | nil=>show (0:Rat)=r*0;rw [Rat.mul_zero]
 | cons t l ih=>
  show (if t.1=x then r*t.2 else 0)+cf (l.map (scT r)) x=r*((if t.1=x then t.2 else 0)+cf l x)
  rw [ih,Rat.mul_add]
  split
  ·rfl
  ·rw [Rat.mul_zero]
theorem map_snoc {l:TL} {j:Nat} (f:Int × Rat→Int × Rat) (hj:j < l.length):(l.take (j+1)).map f=(l.take j).map f ++ [f (gt l j)]:=by
 rw [← List.take_append_getElem hj,List.map_append,gt_lt hj];rfl
set_option linter.unusedSimpArgs false in
set_option maxHeartbeats 4000000 in
set_option maxRecDepth 100000 in
theorem lscale_any {w:World} {vr v:Value} {r:Rat} {l:TL} {c:Rat} (K L M:Nat) (hr:OwnQ 119 0 w vr r) (hv:RdX w v l c) (hsr:Sz K r) (hs:∀ t∈l,Sz L t.2) (hsc:Sz M c) (hl:l.length≤1000) (hL:K+L≤9990) (hM:M≤1000000):
  Calls Tryz.prog 52 #[vr,v] w (Gives w fun v' w'=>∃ l',FormT l'∧(∀ x,cf l' x=r*cf l x)∧(∀ t∈l',Sz (l.length*(K+L+1)+1) t.2)∧l'.length≤l.length∧OwnX w.heap.size w' v' l' (r*c)):=by
 refine via fun R hR=>?_
 have HS:=Lib.hid hs
 have HSR:=Lib.hid hsr
 have HSC:=Lib.hid hsc
 obtain ⟨a,k,s,b,m,d,b',m',d',rfl,hlk,hkm,HRW,HRC⟩:=hv.op
 obtain ⟨s9,a9,l9,c9,a8,l8,c8,rfl,HRR⟩:=hr.op
 clear hv hr hs hsr hsc
 obtain ⟨w1,hw1,b1,c1,c2,c3,r1,r2,r3,-⟩:=bx3 w [.bool s9,.slice a9 l9 c9,.slice a8 l8 c8] [.slice a l.length k,.bool s,.slice b m d,.slice b' m' d'] [.slice none 0 0,.bool false,.slice none 0 0,.slice none 0 0] 59 61 61
 have HW:=Lib.hid hw1
 have C1:=Lib.hid c1
 have C2:=Lib.hid c2
 have R2:Hid (Rt w1 (w.heap.size+1+1) 4 61):=by
  show Rt _ _ _ _
  rw [hw1]
  have:=Rt.new ((w.alloc (.cells #[.bool s9,.slice a9 l9 c9,.slice a8 l8 c8] 59)).alloc (.cells #[.slice a l.length k,.bool s,.slice b m d,.slice b' m' d'] 61)) [.slice none 0 0,.bool false,.slice none 0 0,.slice none 0 0] 61
  simpa using this
 clear c1 c2 c3 r1 r2 r3 hw1
 go_enter Tryz.func52,Tryz.ntmps52
 go_upto_region 1 with (fail)
 rw [← HW.out]
 clear HW
 obtain ⟨k0,k1,k2⟩:=C1.out.c3
 obtain ⟨j0,j1,j2,j3⟩:=C2.out.c4
 go_wp2_with fail
 refine (rmul_any (HRR.out.rd.ext b1) (HRC.out.rd.ext b1) (HSR.out.le (by omega)) (HSC.out.le (by omega))).mono ?_
 rintro e w2 ⟨_,rfl,b2,o2⟩
 obtain ⟨s7,a7,l7,c7,a6,l6,c6,rfl,O2⟩:=o2.op
 clear o2 k0 k1 k2 j0 j1 j2 j3
 obtain ⟨w3,hw3,b3,c3,hr3,-⟩:=bx1 w2 [.slice none 0 0,.bool s7,.slice a7 l7 c7,.slice a6 l6 c6] 61
 have HW:=Lib.hid hw3
 have R3:Hid (Rt w3 w2.heap.size 4 61):=by
  show Rt _ _ _ _
  rw [hw3]
  exact Rt.new w2 [.slice none 0 0,.bool s7,.slice a7 l7 c7,.slice a6 l6 c6] 61
 have C3:=Lib.hid c3
 clear hw3 c3 hr3
 go_upto_region 2 with (fail)
 rw [← HW.out]
 clear HW
 obtain ⟨BO,hBO⟩:∃ BO,w2.heap.size=BO:=⟨_,rfl⟩
 have h12:=b2.size
 rw [hBO] at R3 C3 ⊢
 have hBO1:w1.heap.size≤BO:=by omega
 clear hBO h12
 obtain ⟨j0,j1,j2,j3⟩:=(C2.out.ext (Ext.trans b2 b3)).c4
 go_wp2_with fail
 clear j0 j1 j2 j3
 go_loopw [16] (fun t wr=>∃ (j:Nat) (ao:Option Addr) (ko:Nat),t=.int .i64 j∧j≤l.length∧Ext w1 wr∧Hid (Bx wr BO [.slice ao ((l.take j).map (scT r)).length ko,.bool s7,.slice a7 l7 c7,.slice a6 l6 c6])∧Hid (Rt wr BO 4 61)∧Hid (OwnQ 119 0 wr (.agg #[.bool s7,.slice a7 l7 c7,.slice a6 l6 c6]) (r*c))∧Hid (OwnRow 4 (OwnTm 119) 90 w1.heap.size wr (.slice ao ((l.take j).map (scT r)).length ko) ((l.take j).map (scT r)))) (fun t _=>l.length - (intOf t).toNat)
 case atStart=>exact ⟨0,none,0,rfl,Nat.zero_le _,Ext.trans b2 b3,by rw [List.take_zero];exact C3.out,R3.out,(O2.out.mono (Nat.zero_le _)).ext b3,by rw [List.take_zero];exact OwnRow.nil _ _ _⟩
 case round=>
  clear O2 C3 R3
  obtain ⟨j,ao,ko,rfl,hj,hx,hC,hRt,hQ,hO⟩:=hrel
  by_cases hjl:j < l.length
  ·have hd:decide ((j:Int) < (l.length:Int))=true:=decide_eq_true (by omega)
   obtain ⟨bT,oT,rfl⟩:=HRW.out.some_at hjl
   obtain ⟨sx,ax,lx,mx,ay,ly,my,hB4,hQT⟩:=HRW.out.tm j hjl
   obtain ⟨u0,u1,u2,u3⟩:=hB4.ext (Ext.trans b1 hx)
   have hJ1:IntKind.i64.wrap (j:Int)=(j:Int):=by rw [IntKind.wrap_i64];omega
   have hJ2:(0:Int)≤(j:Int)∧(j:Int) < (l.length:Int):=⟨by omega,by omega⟩
   have HSN:=Lib.hid (map_snoc (scT r) hjl)
   have HOL:Hid (((l.take j).map (scT r)).length=j):=by show _=_;rw [List.length_map,List.length_take];omega
   have HSQ:Hid (Sz L (gt l j).2):=by show Sz _ _;rw [gt_lt hjl];exact HS.out _ (List.getElem_mem hjl)
   unfold scT at HSN
   obtain ⟨y,hy⟩:∃ y,(gt l j).1=y:=⟨_,rfl⟩
   obtain ⟨q4,hq4⟩:∃ q4,(gt l j).2=q4:=⟨_,rfl⟩
   rw [hy,hq4] at HSN
   rw [hq4] at HSQ
   rw [hy] at u0
   rw [hq4] at hQT
   have HQT:=Lib.hid (hQT.ext (Ext.trans b1 hx))
   clear hy hq4 hB4 hQT
   obtain ⟨ol,hol⟩:∃ ol,(l.take j).map (scT r)=ol:=⟨_,rfl⟩
   rw [hol] at hC hO HOL
   have hol2:(l.take j).map (fun t=>(t.1,r*t.2))=ol:=hol
   try rw [hol2] at HSN
   clear hol hol2
   obtain ⟨ol2,hol2⟩:∃ ol2,ol ++ [(y,r*q4)]=ol2:=⟨_,rfl⟩
   have HS2:=Lib.hid hol2
   rw [hol2] at HSN
   clear hol2
   obtain ⟨w4,hw4,b4,c4,-,-⟩:=bx1 wr [.int .i64 y,.bool sx,.slice ax lx mx,.slice ay ly my] 90
   have HW:=Lib.hid hw4
   have DT:=Lib.hid c4
   clear hw4 c4
   go_upto_region 5 with (fail)
   rw [← HW.out]
   clear HW u0 u1 u2 u3
   have b14:=Ext.trans hx b4
   have DO:=Lib.hid (hC.out.ext b4)
   have hRt4:=Lib.hid (hRt.out.ext b4)
   have DR:=Lib.hid (C1.out.ext b14)
   have HRR4:=Lib.hid (HRR.out.ext (Ext.trans b1 b14))
   have HQ4:=Lib.hid (HQT.out.ext b4)
   have hO4:=Lib.hid (hO.out.ext OwnTm.ext b4)
   have hQ4:=Lib.hid (hQ.out.ext b4)
   have neO:=hO.out.ne_rt hRt.out (by decide)
   have neT:=hO.out.ne_new
   have neR:(Value.slice ao ol.length ko).ownBlock≠some w.heap.size:=fun h=>by
    have h1:=(hO.out.lt _ h).1
    have h2:=C1.out.lt
    omega
   have b5:=drew_ext w4
   have XE:=b5
   refine wp_region_noPanic ?_
   refine wp_region_last_drew (st:=12) (S:=fun w'=>(w'.cell? ⟨BO,0,none⟩=some (.slice ao ol.length ko))∧(w'.cell? ⟨wr.heap.size,0,none⟩=some (.int .i64 y)∧w'.cell? ⟨wr.heap.size,1,none⟩=some (.bool sx)∧w'.cell? ⟨wr.heap.size,2,none⟩=some (.slice ax lx mx)∧w'.cell? ⟨wr.heap.size,3,none⟩=some (.slice ay ly my))∧(w'.cell? ⟨w.heap.size,0,none⟩=some (.bool s9)∧w'.cell? ⟨w.heap.size,1,none⟩=some (.slice a9 l9 c9)∧w'.cell? ⟨w.heap.size,2,none⟩=some (.slice a8 l8 c8))) (by kernel_rfl) (⟨(DO.out.ext XE).c1,(DT.out.ext XE).c4,(DR.out.ext XE).c3⟩) (fun hHeld=>?_)
   refine tkL 0 hHeld ?_
   simp only [jP,jA,jB,jC,jD,jE,jF]
   refine tkL 1 hHeld ?_
   simp only [jP,jA,jB,jC,jD,jE,jF]
   refine tkL 2 hHeld ?_
   simp only [jP,jA,jB,jC,jD,jE,jF]
   refine tkL 3 hHeld ?_
   simp only [jP,jA,jB,jC,jD,jE,jF]
   refine tkL 4 hHeld ?_
   simp only [jP,jA,jB,jC,jD,jE,jF]
   refine tkL 5 hHeld ?_
   simp only [jP,jA,jB,jC,jD,jE,jF]
   refine tkL 6 hHeld ?_
   simp only [jP,jA,jB,jC,jD,jE,jF]
   refine rdL 7 (by kernel_rfl) rfl (fun K hK=>?_)
   go_simp
   go_at_call 89;refine (rmul_any (HRR4.out.rd.ext XE) (HQ4.out.rd.ext XE) (HSR.out.le (by omega)) (HSQ.out.le (by omega))).mono ?_;rintro e w6 ⟨v6,rfl,b6,o6⟩;have O6:=Lib.hid o6;clear o6;(first | have XE:=Ext.trans XE b6 | have XE:=Ext.trans (Ext.trans XE (Ext.alloc _ _)) b6);obtain ⟨s6,e6,n6,g6,f6,m6,h6,rfl,P6⟩:=O6.out.op
   go_wp2_with fail
   refine hK.out _ _ (⟨(DO.out.ext XE).c1,(DT.out.ext XE).c4,(DR.out.ext XE).c3⟩) (fun hHeld=>?_)
   clear hK K
   try simp only [jP,jA,jB,jC,jD,jE,jF]
   refine tkL 8 hHeld ?_
   simp only [jP,jA,jB,jC,jD,jE,jF]
   refine rdL 9 (by kernel_rfl) rfl (fun K hK=>?_)
   go_simp
   refine hK.out _ _ (⟨(DO.out.ext (Ext.trans XE (Ext.alloc _ _))).c1,(DT.out.ext (Ext.trans XE (Ext.alloc _ _))).c4,(DR.out.ext (Ext.trans XE (Ext.alloc _ _))).c3⟩) (fun hHeld=>?_)
   clear hK K
   try simp only [jP,jA,jB,jC,jD,jE,jF]
   refine rdL 10 (by kernel_rfl) rfl (fun K hK=>?_)
   refine if_wantedL rfl ?_
   refine append_row (y:=(y,r*q4)) etTm (kdT (e:=119) (by decide)) _ _ (by rfl) w1.heap.size (by rfl) _ (by rfl) (hO4.out.ext OwnTm.ext XE) rfl ⟨_,_,_,rfl,P6.out.mono (Nat.zero_le _)⟩ (Below.size (Ext.trans hx (Ext.trans b4 XE))) (by have:=HOL.out;omega) (by have:=HOL.out;unfold maxLen;omega) ?_
   intro v9 w9 o9 b9 g9
   have xA:=Ext.trans XE (Ext.alloc w6 (.cells #[.int .i64 y,.bool s6,.slice e6 n6 g6,.slice f6 m6 h6] 90))
   have RO9:=Lib.hid ((hRt4.out.ext xA).grow g9 neO)
   have DO9:=Lib.hid ((DO.out.ext xA).grow g9 neO)
   obtain ⟨nn,xs,hown⟩:=((hO4.out.ext OwnTm.ext xA)).own
   have HQ9:=Lib.hid (OwnQ.grown (hQ4.out.ext xA) hown (by decide) g9)
   have XW:=Below.trans (Ext.trans hx b4) (Below.trans (Below.mono XE (Below.size (Ext.trans hx b4))) b9)
   rw [HS2.out] at o9
   obtain ⟨a11,k11,rfl,-,-⟩:=o9.rd.shape
   refine hK.out _ _ ⟨DO9.out.c1,((DT.out.ext xA).grow g9 neT).c4,((DR.out.ext xA).grow g9 neR).c3⟩ (fun hHeld=>?_)
   clear hK K
   try simp only [jP,jA,jB,jC,jD,jE,jF]
   refine tkL 11 hHeld ?_
   simp only [jP,jA,jB,jC,jD,jE,jF]
   obtain ⟨_,_,_,_,n0,n1,n2,n3,i0,i1,i2,i3⟩:=RO9.out.c4
   refine wpAnyL_ready (rs:=[12]) (by kernel_rfl) (by simp) ?_
   refine AllReadyL.last (o:=_) rfl (fun K hK=>?_)
   go_simp
   refine hK.out _ _ ?_
   clear hK K
   try simp only [jP,jA,jB,jC,jD,jE,jF]
   refine wpAnyL_done (by kernel_rfl) ?_ _
   refine NoPanic.normal ?_
   go_wp2_with fail
   go_roundw
   case rel=>exact ⟨j+1,a11,k11,by go_num,by omega,putL_below hBO1 [_] 0 XW,by
    show Hid (Bx _ BO [.slice a11 ((l.take (j+1)).map (fun t=>(t.1,r*t.2))).length k11,_,_,_])
    rw [HSN.out]
    exact DO9.out.set0 RO9.out (by decide) _,RO9.out.set0 _,HQ9.out.putT RO9.out (by decide) 0 [_],by
    show Hid (OwnRow _ _ _ _ _ (.slice a11 ((l.take (j+1)).map (fun t=>(t.1,r*t.2))).length k11) ((l.take (j+1)).map (fun t=>(t.1,r*t.2))))
    rw [HSN.out]
    exact o9.putT RO9.out (by decide) 0 [_] (fun v a h=>h.putT RO9.out (by decide) 0 [_])⟩
   case measure=>simp [intOf] <;> omega
  ·obtain rfl:j=l.length:=by omega
   have hd:decide ((l.length:Int) < (l.length:Int))=false:=decide_eq_false (by omega)
   rw [List.take_length] at hC hO
   have HSM:Hid (∀ t∈l.map (scT r),Sz (K+L) t.2):=fun t ht=>by
    obtain ⟨u,hu,rfl⟩:=List.mem_map.1 ht
    exact HSR.out.mul (HS.out u hu)
   have HLM:Hid ((l.map (scT r)).length=l.length):=List.length_map _
   have HCF:=Lib.hid (cf_scale r l)
   obtain ⟨ol,hol⟩:∃ ol,l.map (scT r)=ol:=⟨_,rfl⟩
   rw [hol] at hC hO HSM HLM HCF
   clear hol
   have HCA:=Lib.hid (canon_any (K+L) (show RdX wr (.agg #[.slice ao ol.length ko,.bool s7,.slice a7 l7 c7,.slice a6 l6 c6]) ol (r*c) from ⟨_,_,_,_,rfl,hO.out.rd,hQ.out⟩) HSM.out (by rw [HLM.out];exact hl) hL)
   obtain ⟨k0,k1,k2,k3⟩:=hC.out.c4
   have HRX:=Lib.hid (R2.out.ext hx)
   clear hC hQ hO
   go_wp2_with fail
   refine HCA.out.mono ?_
   rintro e w4 ⟨v4,rfl,b4,l',hcan,hsz,hlen,hown⟩
   have b14:=Ext.trans hx b4
   obtain ⟨ar,kr,sr,br,mr,dr,br',mr',dr',rfl,-,-,HX⟩:=hown.op
   have HCN:=Lib.hid hcan
   have HZZ:=Lib.hid hsz
   have h0r:w.heap.size≤wr.heap.size:=Below.size (Ext.trans b1 hx)
   rw [HLM.out] at HZZ hlen
   clear k0 k1 k2 k3 hcan hsz hown
   have RR:=Lib.hid (HRX.out.ext b4)
   obtain ⟨_,_,_,_,j0,j1,j2,j3,i0,i1,i2,i3⟩:=RR.out.c4
   go_wp2_with fail
   refine bodyPost_ret (v:=.agg #[.slice ar l'.length kr,.bool sr,.slice br mr dr,.slice br' mr' dr']) (by simp [results,Tryz.results52,go_sem,j0,j1,j2,j3]) rfl ?_
   exact hR.out _ _ (Gives.mk (put4_below (Ext.trans b1 b14) (by omega) _ _ _ _ _) ⟨l',HCN.out.1,fun x=>(HCN.out.2 x).trans (HCF.out x),HZZ.out,hlen,(HX.out.mono h0r).putT RR.out (by decide) (by decide) 0 [_,_,_,_]⟩)
open Go.RowKit Go.Att

theorem row_cells {w:World} {v:Value} {l:TL} (h:RdRow 4 (OwnTm 119) w v l):∃ E:List (List Value),RdV w v 4 l.length E.flatten∧Pw 4 (fun c t=>OwnTm 119 w (.agg c.toArray) t) E l∧∀ u∈E.flatten,u.oneCell'=true:=by
 obtain ⟨E,h1,h2⟩:=h
 refine ⟨E,h1,h2,fun u hu=>?_⟩
 obtain ⟨c,hc,hu⟩:=List.mem_flatten.1 hu
 obtain ⟨i,hi,he⟩:=List.getElem_of_mem hc
 obtain ⟨-,h⟩:=h2.gt i hi
 rw [gt_lt hi,he] at h
 exact (kdT (e:=119) (e':=90) (by decide)).one h u hu
set_option linter.unusedSimpArgs false in
set_option maxHeartbeats 4000000 in
set_option maxRecDepth 100000 in
theorem ladd_any {w:World} {va vb:Value} {la lb:TL} {ca cb:Rat} (L M:Nat) (ha:RdX w va la ca) (hb:RdX w vb lb cb) (hsa:∀ t∈la,Sz L t.2) (hsb:∀ t∈lb,Sz L t.2) (hca:Sz M ca) (hcb:Sz M cb) (hl:la.length+lb.length≤1000) (hL:L≤9990) (hM:M≤1000000):
  Calls Tryz.prog 97 #[va,vb] w (Gives w fun v' w'=>∃ l',FormT l'∧(∀ x,cf l' x=cf la x+cf lb x)∧(∀ t∈l',Sz ((la.length+lb.length)*(L+1)+1) t.2)∧l'.length≤la.length+lb.length∧OwnX w.heap.size w' v' l' (ca+cb)):=by
 refine via fun R hR=>?_
 have HSM:Hid (∀ t∈la ++ lb,Sz L t.2):=fun t ht=>by
  rcases List.mem_append.1 ht with h | h
  ·exact hsa t h
  ·exact hsb t h
 obtain ⟨lab,hlab⟩:∃ lab,la ++ lb=lab:=⟨_,rfl⟩
 have HLAB:=Lib.hid hlab
 have HLL:Hid (lab.length=la.length+lb.length):=by show _=_;rw [← hlab,List.length_append]
 rw [hlab] at HSM
 clear hlab
 have HCA:=Lib.hid hca
 have HCB:=Lib.hid hcb
 obtain ⟨a,k,s,b,m,d,b',m',d',rfl,hlk,hkm,HRW,HRC⟩:=ha.op
 obtain ⟨a2,k2,s2,e,n,f,e',n',f',rfl,hlk2,hkm2,HRW2,HRC2⟩:=hb.op
 clear ha hb hsa hsb hca hcb
 obtain ⟨Ea,hEa⟩:=row_cells HRW.out
 obtain ⟨Eb,hEb⟩:=row_cells HRW2.out
 have HEA:=Lib.hid hEa
 have HEB:=Lib.hid hEb
 clear hEa hEb HRW HRW2
 obtain ⟨w1,hw1,b1,c1,c2,c3,r1,r2,r3,-⟩:=bx3 w [.slice a la.length k,.bool s,.slice b m d,.slice b' m' d'] [.slice a2 lb.length k2,.bool s2,.slice e n f,.slice e' n' f'] [.slice none 0 0,.bool false,.slice none 0 0,.slice none 0 0] 61 61 61
 have HW:=Lib.hid hw1
 have C1:=Lib.hid c1
 have C2:=Lib.hid c2
 have R2:Hid (Rt w1 (w.heap.size+1+1) 4 61):=by
  show Rt _ _ _ _
  rw [hw1]
  have:=Rt.new ((w.alloc (.cells #[.slice a la.length k,.bool s,.slice b m d,.slice b' m' d'] 61)).alloc (.cells #[.slice a2 lb.length k2,.bool s2,.slice e n f,.slice e' n' f'] 61)) [.slice none 0 0,.bool false,.slice none 0 0,.slice none 0 0] 61
  simpa using this
 clear c1 c2 c3 r1 r2 r3 hw1
 go_enter Tryz.func97,Tryz.ntmps97
 go_upto_region 1 with (fail)
 rw [← HW.out]
 clear HW
 have h01:w.heap.size≤w1.heap.size:=Below.size b1
 have b2:=drew_ext w1
 have XE:=b2
 refine wp_region_noPanic ?_
 refine wp_region_last_drew (st:=13) (S:=fun w'=>(w'.cell? ⟨w.heap.size,0,none⟩=some (.slice a la.length k)∧w'.cell? ⟨w.heap.size,1,none⟩=some (.bool s)∧w'.cell? ⟨w.heap.size,2,none⟩=some (.slice b m d)∧w'.cell? ⟨w.heap.size,3,none⟩=some (.slice b' m' d'))∧(w'.cell? ⟨w.heap.size+1,0,none⟩=some (.slice a2 lb.length k2)∧w'.cell? ⟨w.heap.size+1,1,none⟩=some (.bool s2)∧w'.cell? ⟨w.heap.size+1,2,none⟩=some (.slice e n f)∧w'.cell? ⟨w.heap.size+1,3,none⟩=some (.slice e' n' f'))) (by kernel_rfl) (⟨(C1.out.ext XE).c4,(C2.out.ext XE).c4⟩) (fun hHeld=>?_)
 refine tkL 0 hHeld ?_
 simp only [jP,jA,jB,jC,jD,jE,jF]
 refine tkL 1 hHeld ?_
 simp only [jP,jA,jB,jC,jD,jE,jF]
 refine tkL 3 hHeld ?_
 simp only [jP,jA,jB,jC,jD,jE,jF]
 refine tkL 4 hHeld ?_
 simp only [jP,jA,jB,jC,jD,jE,jF]
 refine tkL 6 hHeld ?_
 simp only [jP,jA,jB,jC,jD,jE,jF]
 refine tkL 7 hHeld ?_
 simp only [jP,jA,jB,jC,jD,jE,jF]
 refine tkL 8 hHeld ?_
 simp only [jP,jA,jB,jC,jD,jE,jF]
 refine tkL 9 hHeld ?_
 simp only [jP,jA,jB,jC,jD,jE,jF]
 refine rdL 2 (by kernel_rfl) rfl (fun K hK=>?_)
 go_simp
 go_at_call 84;refine (clone_any (HEA.out.1.ext (Ext.trans b1 XE)) HEA.out.2.2 (by omega)).mono ?_;rintro e w3 ⟨v3,rfl,b3,o3⟩;have O3:=Lib.hid o3;clear o3;(first | have XE:=Ext.trans XE b3 | have XE:=Ext.trans (Ext.trans XE (Ext.alloc _ _)) b3)
 go_wp2_with fail
 refine hK.out _ _ (⟨(C1.out.ext XE).c4,(C2.out.ext XE).c4⟩) (fun hHeld=>?_)
 clear hK K
 try simp only [jP,jA,jB,jC,jD,jE,jF]
 refine rdL 5 (by kernel_rfl) rfl (fun K hK=>?_)
 refine if_wantedL rfl ?_
 refine append_rdK etTm _ _ (by rfl) w1.heap.size (by rfl) O3.out (by rfl) (HEB.out.1.ext (Ext.trans b1 XE)) HEB.out.2.2 (by omega) (by unfold maxLen;omega) (Below.size XE) ?_
 intro v9 w9 o9 b9 g9
 have XE:=Below.trans XE b9
 have HROW:Hid (RdRow 4 (OwnTm 119) w9 v9 lab):=⟨Ea ++ Eb,by rw [List.flatten_append,HLL.out];exact RdV.of_owns o9,by rw [← HLAB.out];exact Pw.app (HEA.out.2.1.mono fun _ _ h=>OwnTm.ext h (Ext.trans b1 XE)) (HEB.out.2.1.mono fun _ _ h=>OwnTm.ext h (Ext.trans b1 XE))⟩
 obtain ⟨a9,k9,rfl,-,-⟩:=HROW.out.shape
 refine hK.out _ _ ⟨(C1.out.ext XE).c4,(C2.out.ext XE).c4⟩ (fun hHeld=>?_)
 clear hK K
 try simp only [jP,jA,jB,jC,jD,jE,jF]
 refine rdL 10 (by kernel_rfl) rfl (fun K hK=>?_)
 go_simp
 go_at_call 87;refine (radd_any (HRC.out.rd.ext (Ext.trans b1 XE)) (HRC2.out.rd.ext (Ext.trans b1 XE)) (HCA.out.le (by omega)) (HCB.out.le (by omega))).mono ?_;rintro e w4 ⟨v4,rfl,b4,o4⟩;have O4:=Lib.hid o4;clear o4;(first | have XE:=Ext.trans XE b4 | have XE:=Ext.trans (Ext.trans XE (Ext.alloc _ _)) b4);obtain ⟨s4,e4,n4,g4,f4,m4,h4,rfl,P4⟩:=O4.out.op;have X4:=XE
 go_wp2_with fail
 refine hK.out _ _ (⟨(C1.out.ext XE).c4,(C2.out.ext XE).c4⟩) (fun hHeld=>?_)
 clear hK K
 try simp only [jP,jA,jB,jC,jD,jE,jF]
 refine tkL 11 hHeld ?_
 simp only [jP,jA,jB,jC,jD,jE,jF]
 refine rdL 12 (by kernel_rfl) rfl (fun K hK=>?_)
 go_simp
 go_at_call 48;refine (canon_any L (show RdX w4 _ lab (ca+cb) from ⟨_,_,_,_,rfl,HROW.out.ext OwnTm.ext b4,P4.out.mono (Nat.zero_le _)⟩) HSM.out (by rw [HLL.out];exact hl) hL).mono ?_;rintro e w5 ⟨v5,rfl,b5,o5⟩;have O5:=Lib.hid o5;clear o5;(first | have XE:=Ext.trans XE b5 | have XE:=Ext.trans (Ext.trans XE (Ext.alloc _ _)) b5);obtain ⟨l',hcan,hsz,hlen,hown⟩:=O5.out;have HCN:=Lib.hid hcan;have HZZ:=Lib.hid hsz;rw [HLL.out] at HZZ hlen;clear hcan hsz;obtain ⟨ar,kr,sr,br,mr,dr,br',mr',dr',rfl,-,-,HX⟩:=OwnEx.op hown
 go_wp2_with fail
 refine hK.out _ _ (⟨(C1.out.ext XE).c4,(C2.out.ext XE).c4⟩) (fun hHeld=>?_)
 clear hK K
 try simp only [jP,jA,jB,jC,jD,jE,jF]
 obtain ⟨_,_,_,_,j0,j1,j2,j3,i0,i1,i2,i3⟩:=(R2.out.ext XE).c4
 refine wpAnyL_ready (rs:=[13]) (by kernel_rfl) (by simp) ?_
 refine AllReadyL.last (o:=_) rfl (fun K hK=>?_)
 go_simp
 refine hK.out _ _ ?_
 clear hK K
 try simp only [jP,jA,jB,jC,jD,jE,jF]
 refine wpAnyL_done (by kernel_rfl) ?_ _
 refine NoPanic.normal ?_
 go_wp2_with fail
 have hw4s:w.heap.size≤w4.heap.size:=Nat.le_trans h01 (Below.size X4)
 refine bodyPost_ret (v:=.agg #[.slice ar l'.length kr,.bool sr,.slice br mr dr,.slice br' mr' dr']) (by simp [results,Tryz.results97,go_sem,j0,j1,j2,j3]) rfl ?_
 exact hR.out _ _ (Gives.mk (put4_below (Ext.trans b1 XE) (by omega) _ _ _ _ _) ⟨l',HCN.out.1,fun x=>by rw [HCN.out.2 x,← HLAB.out,cf_app],HZZ.out,hlen,(HX.out.mono hw4s).putT (R2.out.ext XE) (by decide) (by decide) 0 [_,_,_,_]⟩)
open Go.RowKit Go.Att

open Go.RowKit Go.Att

theorem form_nil {l:TL} (h:FormT l):l.length=0↔∀ x,cf l x=0:=by
 constructor
 ·intro h0 x
  rw [List.eq_nil_of_length_eq_zero h0];rfl
 ·intro h0
  match l,h with
  | [],_=>rfl
  | t :: l,h=>exact absurd (h0 t.1) ((h.mem t.1).1 ⟨t,List.mem_cons_self,rfl⟩)
theorem num_sign_zero {q:Rat}:q.num.sign=0↔q=0:=by rw [Int.sign_eq_zero_iff_zero,Rat.num_eq_zero]
end Go.Proofs.YtdooldpgnjmpfaaGreatDoor
