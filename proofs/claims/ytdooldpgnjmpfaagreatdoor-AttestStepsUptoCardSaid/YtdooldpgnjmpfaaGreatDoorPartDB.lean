/- A group of texts: PSCheck, PTruth, PSHolds -/
import Derived.Test.YtdooldpgnjmpfaaGreatDoorSq
import Derived.Test.YtdooldpgnjmpfaaGreatDoorPartCJ
import Derived.Test.YtdooldpgnjmpfaaGreatDoorPartDA
import Derived.Test.YtdooldpgnjmpfaaGreatDoorPartCC
import Derived.Test.YtdooldpgnjmpfaaGreatDoorPartAI
import Derived.Test.YtdooldpgnjmpfaaGreatDoorPartAJ
import Derived.Test.YtdooldpgnjmpfaaGreatDoorPartCF
namespace Go.Proofs.YtdooldpgnjmpfaaGreatDoor
open Go.RowKit Go.Att

theorem fst_self {L:List AT} {j:Nat} {z:Int} (hp:L.Pairwise fun a b=>kyA a≠kyA b) (hj:j < L.length) (h:IsFst (L.map kyA) (kyA (gt L j)) z):z=(j:Int):=by
 obtain ⟨i,rfl,h1,h2⟩:=h
 have hi:i < L.length:=by
  have:=(List.getElem?_eq_some_iff.1 h1).1
  rwa [List.length_map] at this
 rw [List.getElem?_map,List.getElem?_eq_getElem hi,Option.map_some,Option.some.injEq,gt_lt hj] at h1
 rw [List.pairwise_iff_getElem] at hp
 rcases Nat.lt_trichotomy i j with h3 | h3 | h3
 ·exact absurd h1 (hp i j hi hj h3)
 ·rw [h3]
 ·exact absurd (by rw [List.getElem?_map,List.getElem?_eq_getElem hj,Option.map_some,gt_lt hj]) (h2 j h3)
theorem SzG.sm {a:AT} (h:SzG a):Sm3 a:=⟨h.1,fun t ht=>(h.2.1 t ht).le (by decide),h.2.2.le (by decide)⟩
theorem RdRow.rowC {w:World} {a:Option Addr} {n c:Nat} {l:List (List Int)} (h:RdRow 1 (RowT 1 IntT) w (.slice a n c) l) (i:Nat) (hi:i < l.length):
  ∃ b off x m,a=some ⟨b,off,none⟩∧w.cell? ⟨b,off+i,none⟩=some (.slice x l[i].length m)∧RdRow 1 IntT w (.slice x l[i].length m) l[i]:=RdRow.rowI h i hi
set_option linter.unusedSimpArgs false in
set_option maxHeartbeats 40000000 in
set_option maxRecDepth 100000 in
theorem smtcheck_any {w : World} {vp : Value} {p : Pq AT} (hp : RdPq OwnA (RowT 1 IntT) w vp p) (hg : GoodP kyA ⟨p.1.1, p.1.2, p.2.1, p.2.2⟩) (ht : Lib.TabIs Tryz.prog w "internal/strconv.uint64pow10" .u64 Lib.pow10Tab) :
  Calls Tryz.prog 20 #[vp] w (Gives w fun v' _=>v'=.int .i64 0):=by
 refine via fun R hR=>?_
 have HP:=Lib.hid hp
 have HGD:=Lib.hid hg
 have HT:=Lib.hid ht
 have hna:p.2.1.length≤40:=hg.na
 have hnc:p.2.2.length≤60:=hg.nc
 have HGR:Hid (∀ w',Ext w w'→Calls Tryz.prog 14 #[vp] w' (Gives w' fun v' _=>v'=.bool false)):=fun w' x=>by
  refine (greatp_any (hp.ext OwnAt.ext (fun h x=>RowT.ext h IntT.ext x) x) (by omega) (by omega)).mono ?_
  rintro _ _ ⟨v,e,bb,b,rfl,h⟩
  refine ⟨_,e,bb,?_⟩
  rw [h.2 ⟨hg.R1,hg.B1,fun c hc=>(hg.gc c hc).2.2⟩]
 have HIN:Hid (∀ w' v a,Ext w w'→a∈p.2.1→OwnA w' v a→Calls Tryz.prog 16 #[vp,v] w' (Gives w' fun v' _=>v'=.bool true)):=fun w' v a x ha h=>by
  refine (insidep_any (hp.ext OwnAt.ext (fun h x=>RowT.ext h IntT.ext x) x) h (by have:=(hg.sz a ha).1;omega)).mono ?_
  rintro _ _ ⟨v,e,bb,b,rfl,hb⟩
  refine ⟨_,e,bb,?_⟩
  rw [hb.2 (hg.ga a ha).2.2.2]
 have HCN:Hid (∀ w' v a,a∈p.2.1→OwnA w' v a→Calls Tryz.prog 33 #[v] w' (Gives w' fun v' _=>v'=.bool true)):=fun w' v a ha h=>
  canonical_any h (hg.ga a ha).1 ⟨(hg.ga a ha).2.1,(hg.ga a ha).2.2.1⟩ (hg.sz a ha).sm
 have HKN:Hid (∀ w' l c,Ext w w'→c∈p.2.2→l∈c→Calls Tryz.prog 17 #[vp,.int .i64 l] w' (Gives w' fun v' _=>v'=.bool true)):=fun w' l c x hc hl=>by
  have hk:=(hg.gc c hc).2.1 l hl
  have h1:=hg.B1
  refine (known_any (hp.ext OwnAt.ext (fun h x=>RowT.ext h IntT.ext x) x) (by have h2:=hk.2.2;unfold In64;dsimp only at *;omega) hg.B0 hg.B1 (by omega)).mono ?_
  rintro _ _ ⟨v,e,bb,b,rfl,hb⟩
  refine ⟨_,e,bb,?_⟩
  rw [hb.2 hk]
 obtain ⟨aa,ca,aq,cq,rfl,hAT,hCL⟩:=hp
 obtain ⟨⟨pR,pB⟩,ats,cls⟩:=p
 dsimp only at*
 have HPL:Hid (∀ w',Ext w w'→Calls Tryz.prog 29 #[.slice aa ats.length ca] w' (Gives w' fun v' w'=>∃ K:List Int,RdRow 1 IntT w' v' K∧K.length=ats.length∧∀ i (h:i < K.length),K[i]=(i:Int))):=fun w' x=>by
  refine (aplaces_any (hAT.ext OwnAt.ext x) (fun a ha=>⟨(hg.ga a ha).2.1,(hg.ga a ha).2.2.1⟩) (fun a ha=>(hg.sz a ha).sm) (fun a ha t ht=>by have h1:=(hg.ga a ha).2.2.2 t ht;have h2:=hg.R1;unfold In64;dsimp only at *;omega) (by omega) (tab_ext ht x)).mono ?_
  rintro _ _ ⟨v,e,bb,K,o,hK,hF⟩
  refine ⟨v,e,bb,K,o.rd,hK,fun i hi=>?_⟩
  obtain ⟨z,h1,h2⟩:=hF i (by omega)
  rw [List.getElem?_eq_getElem hi,Option.some.injEq] at h1
  rw [h1]
  exact fst_self hg.gk (by dsimp only;omega) h2
 have HAT:=Lib.hid hAT
 have HCL:=Lib.hid hCL
 have HR0:Hid (0≤pR∧0≤pB):=⟨hg.R0,hg.B0⟩
 have hdR:decide (pR < 0)=false:=decide_eq_false (by have:=HR0.out.1;omega)
 have hdB:decide (pB < 0)=false:=decide_eq_false (by have:=HR0.out.2;omega)
 clear hAT hCL hg ht HP
 obtain ⟨na,hnl⟩:∃ n,ats.length=n:=⟨_,rfl⟩
 have HNA:=Lib.hid hnl
 obtain ⟨nc,hncl⟩:∃ n,cls.length=n:=⟨_,rfl⟩
 have HNC:=Lib.hid hncl
 rw [hnl] at HAT hna HPL HGR HIN HKN ⊢
 rw [hncl] at HCL hnc HGR HIN HKN ⊢
 clear hnl hncl
 obtain ⟨w1,hw1,b1,c1,-,-⟩:=bx1 w [.int .i64 pR,.int .i64 pB,.slice aa na ca,.slice aq nc cq] 34
 have HW:=Lib.hid hw1
 have C1:=Lib.hid c1
 have B1:=Lib.hid b1
 clear hw1 c1 b1
 go_enter Tryz.func20,Tryz.ntmps20
 go_upto_region 1 with (fail)
 rw [← HW.out]
 clear HW
 obtain ⟨k0,k1,k2,k3⟩:=C1.out.c4
 go_upto_region 3 with (go_at_call 14;refine (HGR.out _ B1.out).mono ?_;rintro e w2 ⟨_,rfl,X2,rfl⟩;have X2:=Lib.hid X2)
 clear k0 k1 k2 k3
 obtain ⟨k0,k1,k2,k3⟩:=(C1.out.ext X2.out).c4
 go_upto_region 6 with (go_at_call 29;refine (HPL.out _ (Ext.trans B1.out X2.out)).mono ?_;rintro e w3 ⟨v3,rfl,X3,K,hr3,hk3,hf3⟩;have X3:=Lib.hid (Ext.trans X2.out X3);obtain ⟨ak,ck,rfl,-,-⟩:=hr3.shape;have HR3:=Lib.hid hr3;have HK3:=Lib.hid hk3;have HF3:=Lib.hid hf3;clear hr3 hk3 hf3)
 clear k0 k1 k2 k3 HPL HGR
 rw [HK3.out] at HR3 ⊢
 go_loopw [25] (fun t wr=>∃ j:Nat,t=.int .i64 j∧j≤na∧Hid (Ext w3 wr)) (fun t _=>na - (intOf t).toNat)
 case atStart=>exact ⟨0,rfl,Nat.zero_le _,Lib.hid (Ext.refl _)⟩
 case round=>
  obtain ⟨j,rfl,hj,hX⟩:=hrel
  obtain ⟨w4,hw4⟩:∃ w0:World,w0=wr:=⟨_,rfl⟩
  subst hw4
  have X14:=Lib.hid (Ext.trans X3.out hX.out)
  have X04:=Lib.hid (Ext.trans B1.out X14.out)
  by_cases hjn:j < na
  ·have hd:decide ((j:Int) < (na:Int))=true:=decide_eq_true (by omega)
   have HJ1:IntKind.i64.wrap ((j:Int)+1)=((j+1:Nat):Int):=by rw [IntKind.wrap_i64];omega
   have HJ2:(0:Int)≤(j:Int)∧(j:Int) < (na:Int):=⟨by omega,by omega⟩
   have hjl:j < ats.length:=by rw [HNA.out];exact hjn
   have hjk:j < K.length:=by rw [HK3.out];exact hjn
   obtain ⟨bK,oK,he,hce⟩:=(HR3.out.ext IntT.ext hX.out).intAt j hjk
   subst he
   rw [HF3.out j hjk] at hce
   obtain ⟨bA,oA,xa,xk,xs,xb,xm,xd,xb',xm',xd',hae,hbo,hax⟩:=HAT.out.atm j hjl
   subst hae
   have CB:=Lib.hid (hbo.ext X04.out)
   have HAM:=Lib.hid (List.getElem_mem hjl)
   obtain ⟨a,ha⟩:∃ a,ats[j]=a:=⟨_,rfl⟩
   rw [ha] at CB HAM hax
   have HI1:Hid (∀ w',Ext w w'→Calls Tryz.prog 16 #[.agg #[.int .i64 pR,.int .i64 pB,.slice (some ⟨bA,oA,none⟩) na ca,.slice aq nc cq],.agg #[.slice xa a.1.1.length xk,.bool xs,.slice xb xm xd,.slice xb' xm' xd',.int .i64 a.2]] w' (Gives w' fun v' _=>v'=.bool true)):=fun w' x=>HIN.out _ _ _ x HAM.out ⟨_,_,_,_,rfl,hax.ext x⟩
   have HC1:Hid (∀ w',Ext w w'→Calls Tryz.prog 33 #[.agg #[.slice xa a.1.1.length xk,.bool xs,.slice xb xm xd,.slice xb' xm' xd',.int .i64 a.2]] w' (Gives w' fun v' _=>v'=.bool true)):=fun w' x=>HCN.out _ _ _ HAM.out ⟨_,_,_,_,rfl,hax.ext x⟩
   clear hbo hax ha hjl hjk
   generalize a.1.1.length=la at*
   generalize a.2=op at*
   have CP:=Lib.hid (C1.out.ext X14.out)
   go_upto_region 8 with (fail)
   clear hce
   have b5:=drew_ext w4
   have XE:=b5
   refine wp_region_noPanic ?_
   refine wp_region_held_drew (S:=fun w'=>(w'.cell? ⟨w.heap.size,0,none⟩=some (.int .i64 pR)∧w'.cell? ⟨w.heap.size,1,none⟩=some (.int .i64 pB)∧w'.cell? ⟨w.heap.size,2,none⟩=some (.slice (some ⟨bA,oA,none⟩) na ca)∧w'.cell? ⟨w.heap.size,3,none⟩=some (.slice aq nc cq))∧(w'.cell? ⟨bA,oA+j*5,none⟩=some (.slice xa la xk)∧w'.cell? ⟨bA,oA+j*5+1,none⟩=some (.bool xs)∧w'.cell? ⟨bA,oA+j*5+2,none⟩=some (.slice xb xm xd)∧w'.cell? ⟨bA,oA+j*5+3,none⟩=some (.slice xb' xm' xd')∧w'.cell? ⟨bA,oA+j*5+4,none⟩=some (.int .i64 op))) (by kernel_rfl) (⟨(CP.out.ext XE).c4,(CB.out.ext XE).c5⟩) (fun hHeld=>?_)
   refine tkH 0 hHeld ?_
   simp only [jP,jA,jB,jC,jD,jE,jF]
   refine tkH 1 hHeld ?_
   simp only [jP,jA,jB,jC,jD,jE,jF]
   refine tkH 2 hHeld ?_
   simp only [jP,jA,jB,jC,jD,jE,jF]
   refine tkH 3 hHeld ?_
   simp only [jP,jA,jB,jC,jD,jE,jF]
   refine tkH 4 hHeld ?_
   simp only [jP,jA,jB,jC,jD,jE,jF]
   refine tkH 5 hHeld ?_
   simp only [jP,jA,jB,jC,jD,jE,jF]
   refine tkH 6 hHeld ?_
   simp only [jP,jA,jB,jC,jD,jE,jF]
   refine tkH 7 hHeld ?_
   simp only [jP,jA,jB,jC,jD,jE,jF]
   refine tkH 8 hHeld ?_
   simp only [jP,jA,jB,jC,jD,jE,jF]
   refine tkH 9 hHeld ?_
   simp only [jP,jA,jB,jC,jD,jE,jF]
   refine rdH 10 (by kernel_rfl) rfl (fun K hK=>?_)
   go_simp
   go_at_call 16;refine (HI1.out _ (Ext.trans X04.out XE)).mono ?_;rintro e w6 ⟨_,rfl,b6,rfl⟩;(first | have XE:=Ext.trans XE b6 | have XE:=Ext.trans (Ext.trans XE (Ext.alloc _ _)) b6)
   go_wp2_with fail
   refine hK.out _ _ (⟨(CP.out.ext XE).c4,(CB.out.ext XE).c5⟩) (fun hHeld=>?_)
   clear hK K
   try simp only [jP,jA,jB,jC,jD,jE,jF]
   refine tkH 11 hHeld ?_
   simp only [jP,jA,jB,jC,jD,jE,jF]
   refine tkH 12 hHeld ?_
   simp only [jP,jA,jB,jC,jD,jE,jF]
   refine tkH 13 hHeld ?_
   simp only [jP,jA,jB,jC,jD,jE,jF]
   refine tkH 14 hHeld ?_
   simp only [jP,jA,jB,jC,jD,jE,jF]
   refine tkH 15 hHeld ?_
   simp only [jP,jA,jB,jC,jD,jE,jF]
   refine tkH 16 hHeld ?_
   simp only [jP,jA,jB,jC,jD,jE,jF]
   refine tkH 17 hHeld ?_
   simp only [jP,jA,jB,jC,jD,jE,jF]
   refine tkH 18 hHeld ?_
   simp only [jP,jA,jB,jC,jD,jE,jF]
   refine rdH 19 (by kernel_rfl) rfl (fun K hK=>?_)
   go_simp
   go_at_call 33;refine (HC1.out _ (Ext.trans X04.out XE)).mono ?_;rintro e w7 ⟨_,rfl,b7,rfl⟩;(first | have XE:=Ext.trans XE b7 | have XE:=Ext.trans (Ext.trans XE (Ext.alloc _ _)) b7)
   go_wp2_with fail
   refine hK.out _ _ (⟨(CP.out.ext XE).c4,(CB.out.ext XE).c5⟩) (fun hHeld=>?_)
   clear hK K
   try simp only [jP,jA,jB,jC,jD,jE,jF]
   refine tkH 20 hHeld ?_
   simp only [jP,jA,jB,jC,jD,jE,jF]
   refine tkH 21 hHeld ?_
   simp only [jP,jA,jB,jC,jD,jE,jF]
   refine wpAnyH_done (by kernel_rfl) ?_ _
   refine NoPanic.normal ?_
   go_wp2_with fail
   go_roundw
   case rel=>exact ⟨j+1,by go_num,by omega,Ext.trans hX.out XE⟩
   case measure=>simp [intOf] <;> omega
  ·obtain rfl:j=na:=by omega
   have hd:decide ((j:Int) < (j:Int))=false:=decide_eq_false (by omega)
   obtain ⟨k0,k1,k2,k3⟩:=(C1.out.ext X14.out).c4
   go_upto_region 12 with fail
   clear k0 k1 k2 k3 hd hjn
   go_loopw [56] (fun t wr=>∃ i:Nat,t=.int .i64 i∧i≤nc∧Hid (Ext w4 wr)) (fun t _=>nc - (intOf t).toNat)
   case atStart=>exact ⟨0,rfl,Nat.zero_le _,Lib.hid (Ext.refl _)⟩
   case round=>
    obtain ⟨i,rfl,hi,hY⟩:=hrel
    obtain ⟨w5,hw5⟩:∃ w0:World,w0=wr:=⟨_,rfl⟩
    subst hw5
    have X05:=Lib.hid (Ext.trans X04.out hY.out)
    have X15:=Lib.hid (Ext.trans X14.out hY.out)
    by_cases hin:i < nc
    ·have hd:decide ((i:Int) < (nc:Int))=true:=decide_eq_true (by omega)
     have HJ1:IntKind.i64.wrap ((i:Int)+1)=((i+1:Nat):Int):=by rw [IntKind.wrap_i64];omega
     have HJ2:(0:Int)≤(i:Int)∧(i:Int) < (nc:Int):=⟨by omega,by omega⟩
     have hil:i < cls.length:=by rw [HNC.out];exact hin
     obtain ⟨bC,oC,xC,mC,he,hce,hrr⟩:=RdRow.rowC (HCL.out.ext (fun h x=>RowT.ext h IntT.ext x) X05.out) i hil
     subst he
     have HCM:=Lib.hid (List.getElem_mem hil)
     obtain ⟨c,hc⟩:∃ c,cls[i]=c:=⟨_,rfl⟩
     rw [hc] at hce hrr HCM
     have HGC:=Lib.hid (HGD.out.gc c HCM.out)
     have HRR:=Lib.hid hrr
     have HCI:Hid (∀ z∈c,In64 z):=fun z hz=>by
      have h1:=(HGC.out.2.1 z hz).2.2
      have h2:=HGD.out.B1
      have h3:=HNA.out
      dsimp only at h1 h2
      unfold In64
      omega
     have HCC:=Lib.hid (ccanon_any hrr HCI.out (by have:=HGC.out.2.2;omega))
     obtain ⟨mc,hmc⟩:∃ m,c.length=m:=⟨_,rfl⟩
     have HMC:=Lib.hid hmc
     have hm64:mc≤64:=by have:=HGC.out.2.2;omega
     rw [hmc] at hce HRR HCC
     clear hc hrr hil hmc
     go_upto_region 15 with (go_at_call 34;refine HCC.out.mono ?_;rintro e w6 ⟨v6,rfl,X6,p6,n6,c6,e6,rfl,G6⟩;have G6:=Lib.hid G6;have X6:=Lib.hid X6)
     clear hce HCC
     rcases G6.out with ⟨rfl,z,hz,hz0⟩ | ⟨rfl,hn6,-,T6⟩
     ·exact absurd hz0 (by
       have h1:=HGC.out.2.1 z hz
       unfold szl
       rw [if_neg h1.2.1]
       have:=h1.1
       omega)
     ·rw [HGC.out.1] at hn6 T6
      have hn6':n6=mc:=by rw [hn6];exact HMC.out
      subst hn6'
      have HT6:=Lib.hid T6.1
      clear T6 G6 hn6
      go_upto_region 18 with fail
      go_loopw [76] (fun t wr=>∃ u:Nat,t=.int .i64 u∧u≤n6∧Hid (Ext w6 wr)) (fun t _=>n6 - (intOf t).toNat)
      case atStart=>exact ⟨0,rfl,Nat.zero_le _,Lib.hid (Ext.refl _)⟩
      case round=>
       obtain ⟨u,rfl,hu,hZ⟩:=hrel
       obtain ⟨w7,hw7⟩:∃ w0:World,w0=wr:=⟨_,rfl⟩
       subst hw7
       have X67:=Lib.hid (Ext.trans X6.out hZ.out)
       by_cases hun:u < n6
       ·have hd2:decide ((u:Int) < (n6:Int))=true:=decide_eq_true (by omega)
        have HK1:IntKind.i64.wrap ((u:Int)+1)=((u+1:Nat):Int):=by rw [IntKind.wrap_i64];omega
        have HK2:(0:Int)≤(u:Int)∧(u:Int) < (n6:Int):=⟨by omega,by omega⟩
        have hul:u < c.length:=by rw [HMC.out];exact hun
        obtain ⟨b8,o8,he8,hc8⟩:=(HRR.out.ext IntT.ext X67.out).intAt u hul
        subst he8
        obtain ⟨b9,o9,he9,hc9⟩:=(HT6.out.ext IntT.ext hZ.out).intAt u hul
        subst he9
        have HKC:Hid (∀ w',Ext w w'→Calls Tryz.prog 17 #[.agg #[.int .i64 pR,.int .i64 pB,.slice aa j ca,.slice (some ⟨bC,oC,none⟩) nc cq],.int .i64 c[u]] w' (Gives w' fun v' _=>v'=.bool true)):=fun w' x=>HKN.out _ _ _ x HCM.out (List.getElem_mem hul)
        generalize c[u]=l at*
        clear hul
        obtain ⟨k0,k1,k2,k3⟩:=(C1.out.ext (Ext.trans X15.out X67.out)).c4
        go_wp2_with (go_at_call 17;refine (HKC.out _ (Ext.trans X05.out X67.out)).mono ?_;rintro e w8 ⟨_,rfl,X8,rfl⟩;have X8:=Lib.hid X8)
        go_roundw
        case rel=>exact ⟨u+1,by go_num,by omega,Ext.trans hZ.out X8.out⟩
        case measure=>simp [intOf] <;> omega
       ·obtain rfl:u=n6:=by omega
        have hd2:decide ((u:Int) < (u:Int))=false:=decide_eq_false (by omega)
        go_wp2_with fail
        go_roundw
        case rel=>exact ⟨i+1,by go_num,by omega,Ext.trans hY.out X67.out⟩
        case measure=>simp [intOf] <;> omega
    ·obtain rfl:i=nc:=by omega
     have hd:decide ((i:Int) < (i:Int))=false:=decide_eq_false (by omega)
     go_wp2_with fail
     exact hR.out _ _ (Gives.mk X05.out rfl)
open Go.RowKit Go.Att

theorem RdB.atN {w:World} {a:Option Addr} {n c:Nat} {l:List Bool} (h:RdB w (.slice a n c) l) {i:Nat} (hi:i < l.length):∃ b off,a=some ⟨b,off,none⟩∧w.cell? ⟨b,off+i,none⟩=some (.bool (l.getD i false)):=by
 obtain ⟨a',c',he,h1,h2,h3,h4⟩:=h.shape
 simp only [Value.slice.injEq] at he
 obtain ⟨rfl,-,rfl⟩:=he
 obtain ⟨b,off,ha,hc⟩:=h4 i hi
 exact ⟨b,off,ha,by rw [hc];unfold nthB;rfl⟩
set_option maxRecDepth 100000 in
set_option linter.unusedSimpArgs false in
set_option maxHeartbeats 8000000 in
theorem truth_any {C:World→Value→List Int→Prop} {w:World} {vp vx vb:Value} {p:Pq AT} {l:Int} {X:List Rat} {bs:List Bool} (hp:RdPq OwnA C w vp p) (hk:knownL (p.1.2+p.2.1.length) l) (hB0:0≤p.1.2) (hB1:p.1.2≤1000) (hA:p.2.1.length≤1000)
  (hg:∀ a∈p.2.1,SmK 230 a) (hop:∀ a∈p.2.1,1≤a.2∧a.2≤3) (hX:RdRow 3 (OwnQp 119) w vx X) (hXs:∀ q∈X,Sz 8 q) (hb:RdB w vb bs):
  Calls Tryz.prog 21 #[vp,.int .i64 l,vx,vb] w (Gives w fun v' _=>v'=.bool (tl (valP ⟨p.1.1,p.1.2,p.2.1,p.2.2⟩ bs X) l)):=by
 refine via fun R hR=>?_
 obtain ⟨a,c,a',c',rfl,hAT,-⟩:=hp
 obtain ⟨⟨pR,pB⟩,ats,cls⟩:=p
 dsimp only at*
 obtain ⟨h0,hm,hkl⟩:=hk
 obtain ⟨n,hn⟩:∃ n:Nat,l.natAbs=n+1:=⟨l.natAbs - 1,by omega⟩
 obtain ⟨nB,rfl⟩:∃ nB:Nat,pB=(nB:Int):=⟨pB.toNat,by omega⟩
 obtain ⟨m,hmm⟩:∃ m:Int,-l=m:=⟨_,rfl⟩
 have hneg:IntKind.i64.wrap (-l)=m:=by rw [IntKind.wrap_i64];omega
 have hmx:IntKind.i64.wrap (max l m - 1)=(n:Int):=by rw [IntKind.wrap_i64,Int.max_def];split <;> omega
 have hmx2:max l m - 1=(n:Int):=by rw [Int.max_def];split <;> omega
 have hwn:wrap64 (n:Int)=(n:Int):=by unfold wrap64;omega
 have HV:Hid (n < nB→tl (valP ⟨pR,nB,ats,cls⟩ bs X) l=(bs.getD n false == decide (0 < l))):=fun h=>by
  unfold tl valP
  dsimp only
  rw [if_pos (by omega),show ((l.natAbs:Int) - 1).toNat=n by omega]
 have HV2:Hid (¬ n < nB→tl (valP ⟨pR,nB,ats,cls⟩ bs X) l=(holdA (gt ats (n - nB)) X == decide (0 < l))):=fun h=>by
  unfold tl valP
  dsimp only
  rw [if_neg (by omega),show ((l.natAbs:Int) - 1 - nB).toNat=n - nB by omega]
 have HKL:Hid (n < nB+ats.length):=by show _ < _;omega
 have HAT:=Lib.hid hAT
 have HG:=Lib.hid hg
 have HOP:=Lib.hid hop
 have HX:=Lib.hid hX
 have HXS:=Lib.hid hXs
 have HB:=Lib.hid hb
 have HB1:=Lib.hid hB1
 clear hAT hg hop hX hXs hb h0 hm hkl hn hB0 hB1 hmm
 generalize tl (valP ⟨pR,nB,ats,cls⟩ bs X) l=ans at*
 obtain ⟨na,hna⟩:∃ na,ats.length=na:=⟨_,rfl⟩
 have HNA:=Lib.hid hna
 have HLA:=Lib.hid hA
 clear hA
 rw [hna] at HAT HKL HLA ⊢
 clear hna
 generalize cls.length=nc at*
 obtain ⟨ax,cx,rfl,-,-⟩:=HX.out.shape
 obtain ⟨ab,cb,rfl,-,-⟩:=HB.out.shape
 obtain ⟨w1,hw1,b1,c1,-,-⟩:=bx1 w [.int .i64 pR,.int .i64 nB,.slice a na c,.slice a' nc c'] 34
 have HW:=Lib.hid hw1
 have C1:=Lib.hid c1
 have X1:=Lib.hid b1
 clear hw1 c1 b1
 obtain ⟨gl,hgl⟩:∃ gl,decide (l > 0)=gl:=⟨_,rfl⟩
 have hgl':decide (0 < l)=gl:=hgl
 rw [hgl'] at HV HV2
 go_enter Tryz.func21,Tryz.ntmps21
 go_upto_region 1 with (fail)
 rw [← HW.out]
 clear HW
 obtain ⟨k0,k1,k2,k3⟩:=C1.out.c4
 by_cases hv:n < nB
 ·have hd:decide ((n:Int) < (nB:Int))=true:=decide_eq_true (by omega)
  have hdN:decide (n < nB)=true:=decide_eq_true hv
  have HA:=Lib.hid (HV.out hv)
  obtain ⟨lb,hlb⟩:∃ lb,bs.length=lb:=⟨_,rfl⟩
  have HLB:=Lib.hid hlb
  rw [hlb] at HB ⊢
  clear hlb HV HV2
  by_cases hs:n < lb
  ·have hd2:decide ((n:Int) < (lb:Int))=true:=decide_eq_true (by omega)
   have hd2N:decide (n < lb)=true:=decide_eq_true hs
   obtain ⟨b,off,he,hc⟩:=RdB.atN (HB.out.ext X1.out) (i:=n) (by rw [HLB.out];exact hs)
   subst he
   generalize bs.getD n false=bv at*
   have HJ2:(0:Int)≤(n:Int)∧(n:Int) < (lb:Int):=⟨by omega,by omega⟩
   go_wp2_with fail
   exact hR.out _ _ (Gives.mk X1.out (by rw [HA.out];first | rfl | (cases gl <;> rfl)))
  ·have hd2:decide ((n:Int) < (lb:Int))=false:=decide_eq_false (by omega)
   have hd2N:decide (n < lb)=false:=decide_eq_false hs
   have HF:Hid (bs.getD n false=false):=by
    have:=HLB.out
    show _=_;rw [List.getD_eq_getElem?_getD,List.getElem?_eq_none (by omega)];rfl
   generalize bs.getD n false=bv at*
   have HF2:=HF.out
   subst HF2
   go_wp2_with fail
   exact hR.out _ _ (Gives.mk X1.out (by rw [HA.out];first | rfl | (cases gl <;> rfl)))
 ·have hd:decide ((n:Int) < (nB:Int))=false:=decide_eq_false (by omega)
  have hdN:decide (n < nB)=false:=decide_eq_false hv
  have HA:=Lib.hid (HV2.out hv)
  obtain ⟨i,hi⟩:∃ i,n - nB=i:=⟨_,rfl⟩
  have hI:IntKind.i64.wrap ((n:Int) - (nB:Int))=(i:Int):=by have:=HB1.out;have:=HLA.out;have:=HKL.out;rw [IntKind.wrap_i64];omega
  have HIL:Hid (i < na):=by have:=HKL.out;show _ < _;omega
  rw [hi] at HA
  clear HV HV2 hi
  have hil:i < ats.length:=by rw [HNA.out];exact HIL.out
  obtain ⟨bA,oA,xa,xk,xs,xb,xm,xd,xb',xm',xd',hae,hbo,hax⟩:=HAT.out.atm i hil
  subst hae
  obtain ⟨u0,u1,u2,u3,u4⟩:=(hbo.ext X1.out).c5
  have HZ:=Lib.hid (HG.out _ (List.getElem_mem hil))
  have HO:=Lib.hid (HOP.out _ (List.getElem_mem hil))
  rw [gt_lt hil] at HA
  have HJ2:(0:Int)≤(i:Int)∧(i:Int) < (na:Int):=⟨by omega,by have:=HIL.out;omega⟩
  have HJ3:(i:Int) < (na:Int):=HJ2.2
  obtain ⟨q,hq⟩:∃ q,ats[i]=q:=⟨_,rfl⟩
  rw [hq] at u0 u4 HZ HO HA hax
  have HOA:Hid (OwnA w (.agg #[.slice xa q.1.1.length xk,.bool xs,.slice xb xm xd,.slice xb' xm' xd',.int .i64 q.2]) q):=⟨_,_,_,_,rfl,hax⟩
  clear hq hbo hax hil
  have HHO:Hid (∀ w',Ext w w'→Calls Tryz.prog 35 #[.agg #[.slice xa q.1.1.length xk,.bool xs,.slice xb xm xd,.slice xb' xm' xd',.int .i64 q.2],.slice ax X.length cx] w' (Gives w' fun v' _=>v'=.tuple #[.bool (holdA q X),.int .i64 (chk q.2)])):=fun w' x=>by
   have h:=holds9_z 230 8 (HOA.out.ext x) (HX.out.ext OwnQ.ext x) HZ.out HXS.out (by decide)
   rw [if_pos HO.out] at h
   exact h
  generalize holdA q X=hv at*
  generalize chk q.2=ck at*
  generalize q.1.1.length=lq at*
  generalize q.2=op at*
  generalize X.length=lx at*
  go_upto_region 6 with (go_at_call 35;refine (HHO.out _ X1.out).mono ?_;rintro e w6 ⟨v6,rfl,X6,rfl⟩;have X6:=Lib.hid X6)
  go_wp2_with fail
  exact hR.out _ _ (Gives.mk (Ext.trans X1.out X6.out) (by rw [HA.out];rfl))
open Go.RowKit Go.Att

theorem any_take {c:List Int} {f:Int→Bool} {u:Nat} (hu:u < c.length):(c.take (u+1)).any f=((c.take u).any f || f c[u]):=by
 rw [← List.take_append_getElem hu,List.any_append]
 simp
theorem canT_self {a:AT} (h:canA a=(a,0)):FormT a.1.1:=by
 have h1:(canA a).2=0:=by rw [h]
 have h2:=canA_open (canA_zero h1)
 rw [h] at h2
 have h3:a.1.1=sclT (facA a.2 (canT a.1.1)) (canT a.1.1):=congrArg (fun x:AT × Int=>x.1.1.1) h2
 rw [h3]
 exact sclT_form (facA_ne (canT_form _)) (canT_form _)
theorem SzG.k {a:AT} (h:SzG a) (hc:canA a=(a,0)):SmK 230 a:=by
 refine ⟨h.1,fun x=>?_,fun t ht=>(h.2.1 t ht).le (by decide),h.2.2.le (by decide)⟩
 by_cases h0:∃ t∈a.1.1,t.1=x
 ·obtain ⟨t,ht,rfl⟩:=h0
  rw [FormT.at (canT_self hc) ht]
  exact (h.2.1 t ht).le (by decide)
 ·rw [cf_none fun t ht he=>h0 ⟨t,ht,he⟩]
  exact Sz.zero.le (by decide)
set_option linter.unusedSimpArgs false in
set_option maxHeartbeats 40000000 in
set_option maxRecDepth 100000 in
theorem smtholds_any {w : World} {vp vx vb : Value} {p : Pq AT} {X : List Rat} {bs : List Bool} (hp : RdPq OwnA (RowT 1 IntT) w vp p) (hg : GoodP kyA ⟨p.1.1, p.1.2, p.2.1, p.2.2⟩) (ht : Lib.TabIs Tryz.prog w "internal/strconv.uint64pow10" .u64 Lib.pow10Tab)
  (hX:RdRow 3 (OwnQp 119) w vx X) (hXs:∀ q∈X,Sz 8 q) (hb:RdB w vb bs):
  Calls Tryz.prog 7 #[vp,vx,vb] w (Gives w fun v' _=>v'=.tuple #[.bool (holdsP ⟨p.1.1,p.1.2,p.2.1,p.2.2⟩ bs X),.int .i64 0]):=by
 refine via fun R hR=>?_
 have HGD:=Lib.hid hg
 have hnc:p.2.2.length≤60:=hg.nc
 have HCK:Hid (∀ w',Ext w w'→Calls Tryz.prog 20 #[vp] w' (Gives w' fun v' _=>v'=.int .i64 0)):=fun w' x=>smtcheck_any (hp.ext OwnAt.ext (fun h x=>RowT.ext h IntT.ext x) x) hg (tab_ext ht x)
 obtain ⟨V,hV⟩:∃ V,V=valP ⟨p.1.1,p.1.2,p.2.1,p.2.2⟩ bs X:=⟨_,rfl⟩
 have HTR:Hid (∀ w' l c,Ext w w'→c∈p.2.2→l∈c→Calls Tryz.prog 21 #[vp,.int .i64 l,vx,vb] w' (Gives w' fun v' _=>v'=.bool (tl V l))):=fun w' l c x hc hl=>by
  have hk:=(hg.gc c hc).2.1 l hl
  rw [hV]
  exact truth_any (hp.ext OwnAt.ext (fun h x=>RowT.ext h IntT.ext x) x) hk hg.B0 hg.B1 (by have:=hg.na;dsimp only at this;omega) (fun a ha=>(hg.sz a ha).k (hg.ga a ha).1) (fun a ha=>⟨(hg.ga a ha).2.1,(hg.ga a ha).2.2.1⟩) (hX.ext OwnQ.ext x) hXs (hb.ext x)
 have HHO:Hid (holdsP ⟨p.1.1,p.1.2,p.2.1,p.2.2⟩ bs X=p.2.2.all (clsT V)):=by rw [hV];exact Lib.hid rfl
 rw [HHO.out] at hR
 obtain ⟨aa,ca,aq,cq,rfl,-,hCL⟩:=hp
 obtain ⟨ax,kx,rfl,-,-⟩:=hX.shape
 obtain ⟨ab,kb,rfl,-,-⟩:=hb.shape
 obtain ⟨⟨pR,pB⟩,ats,cls⟩:=p
 dsimp only at*
 have HCL:=Lib.hid hCL
 clear hCL hg ht hX hXs hb hV HHO
 generalize ats.length=na at*
 generalize X.length=nx at*
 generalize bs.length=nb at*
 obtain ⟨nc,hncl⟩:∃ n,cls.length=n:=⟨_,rfl⟩
 have HNC:=Lib.hid hncl
 rw [hncl] at HCL hnc HCK HTR ⊢
 clear hncl
 obtain ⟨w1,hw1,b1,c1,-,-⟩:=bx1 w [.int .i64 pR,.int .i64 pB,.slice aa na ca,.slice aq nc cq] 34
 have HW:=Lib.hid hw1
 have C1:=Lib.hid c1
 have B1:=Lib.hid b1
 clear hw1 c1 b1
 go_enter Tryz.func7,Tryz.ntmps7
 go_upto_region 1 with (fail)
 rw [← HW.out]
 clear HW
 obtain ⟨k0,k1,k2,k3⟩:=C1.out.c4
 go_upto_region 4 with (go_at_call 20;refine (HCK.out _ B1.out).mono ?_;rintro e w2 ⟨_,rfl,X2,rfl⟩;have X2:=Lib.hid X2)
 clear k0 k1 k2 k3 HCK
 obtain ⟨k0,k1,k2,k3⟩:=(C1.out.ext X2.out).c4
 go_upto_region 5 with fail
 clear k0 k1 k2 k3
 go_loopw [22] (fun t wr=>∃ j:Nat,t=.int .i64 j∧j≤nc∧Hid (Ext w1 wr)∧Hid (∀ i (h:i < cls.length),i < j→clsT V cls[i]=true)) (fun t _=>nc - (intOf t).toNat)
 case atStart=>exact ⟨0,rfl,Nat.zero_le _,X2,Lib.hid fun i _ h=>absurd h (Nat.not_lt_zero _)⟩
 case round=>
  clear X2
  obtain ⟨j,rfl,hj,hX,hP⟩:=hrel
  obtain ⟨w4,hw4⟩:∃ w0:World,w0=wr:=⟨_,rfl⟩
  subst hw4
  have X04:=Lib.hid (Ext.trans B1.out hX.out)
  by_cases hjn:j < nc
  ·have hd:decide ((j:Int) < (nc:Int))=true:=decide_eq_true (by omega)
   have HJ1:IntKind.i64.wrap ((j:Int)+1)=((j+1:Nat):Int):=by rw [IntKind.wrap_i64];omega
   have HJ2:(0:Int)≤(j:Int)∧(j:Int) < (nc:Int):=⟨by omega,by omega⟩
   have hjl:j < cls.length:=by rw [HNC.out];exact hjn
   obtain ⟨bC,oC,xC,mC,he,hce,hrr⟩:=RdRow.rowC (HCL.out.ext (fun h x=>RowT.ext h IntT.ext x) X04.out) j hjl
   subst he
   have HCM:=Lib.hid (List.getElem_mem hjl)
   have HGO:Hid (clsT V cls[j]=true→∀ i (h:i < cls.length),i < j+1→clsT V cls[i]=true):=fun g i h hi=>by
    by_cases he:i=j
    ·subst he;exact g
    ·exact hP.out i h (by omega)
   have HBAD:Hid (clsT V cls[j]=false→cls.all (clsT V)=false):=fun g=>by
    cases ha:cls.all (clsT V) with
    | false=>rfl
    | true=>
     rw [List.all_eq_true] at ha
     rw [ha _ (List.getElem_mem hjl)] at g
     cases g
   obtain ⟨c,hc⟩:∃ c,cls[j]=c:=⟨_,rfl⟩
   rw [hc] at hce hrr HCM HGO HBAD
   have HRR:=Lib.hid hrr
   obtain ⟨mc,hmc⟩:∃ m,c.length=m:=⟨_,rfl⟩
   have HMC:=Lib.hid hmc
   have hm64:mc≤64:=by rw [← hmc];exact (HGD.out.gc c HCM.out).2.2
   rw [hmc] at hce HRR
   clear hc hrr hjl hmc hP
   go_upto_region 9 with fail
   clear hce
   go_loopw [11,28] (fun s t wr=>∃ u:Nat,t=.int .i64 u∧s=.bool ((c.take u).any (tl V))∧u≤mc∧Hid (Ext w4 wr)) (fun _ t _=>mc - (intOf t).toNat)
   case atStart=>exact ⟨0,rfl,by rw [List.take_zero];rfl,Nat.zero_le _,Lib.hid (Ext.refl _)⟩
   case round=>
    obtain ⟨u,rfl,rfl,hu,hZ⟩:=hrel
    obtain ⟨w7,hw7⟩:∃ w0:World,w0=wr:=⟨_,rfl⟩
    subst hw7
    by_cases hun:u < mc
    ·have hd2:decide ((u:Int) < (mc:Int))=true:=decide_eq_true (by omega)
     have HK1:IntKind.i64.wrap ((u:Int)+1)=((u+1:Nat):Int):=by rw [IntKind.wrap_i64];omega
     have HK2:(0:Int)≤(u:Int)∧(u:Int) < (mc:Int):=⟨by omega,by omega⟩
     have hul:u < c.length:=by rw [HMC.out];exact hun
     obtain ⟨b8,o8,he8,hc8⟩:=(HRR.out.ext IntT.ext hZ.out).intAt u hul
     subst he8
     have HAT:=Lib.hid (any_take (f:=tl V) hul)
     have HTC:Hid (∀ w',Ext w w'→Calls Tryz.prog 21 #[.agg #[.int .i64 pR,.int .i64 pB,.slice aa na ca,.slice (some ⟨bC,oC,none⟩) nc cq],.int .i64 c[u],.slice ax nx kx,.slice ab nb kb] w' (Gives w' fun v' _=>v'=.bool (tl V c[u]))):=fun w' x=>HTR.out _ _ _ x HCM.out (List.getElem_mem hul)
     generalize tl V c[u]=tb at*
     generalize c[u]=l at*
     clear hul
     obtain ⟨k0,k1,k2,k3⟩:=(C1.out.ext (Ext.trans hX.out hZ.out)).c4
     cases hb:(c.take u).any (tl V) with
     | true=>
      rw [hb] at HAT
      have HAT2:Hid ((c.take (u+1)).any (tl V)=true):=HAT
      clear HAT hb
      go_wp2_with fail
      go_roundw
      case rel=>exact ⟨u+1,by go_num,by rw [HAT2.out],by omega,hZ.out⟩
      case measure=>simp [intOf] <;> omega
     | false=>
      rw [hb,Bool.false_or] at HAT
      clear hb
      go_wp2_with (go_at_call 21;refine (HTC.out _ (Ext.trans X04.out hZ.out)).mono ?_;rintro e w8 ⟨_,rfl,X8,rfl⟩;have X8:=Lib.hid X8)
      go_roundw
      case rel=>exact ⟨u+1,by go_num,by rw [HAT.out],by omega,Ext.trans hZ.out X8.out⟩
      case measure=>simp [intOf] <;> omega
    ·obtain rfl:u=mc:=by omega
     have hd2:decide ((u:Int) < (u:Int))=false:=decide_eq_false (by omega)
     have HTK:Hid ((c.take u).any (tl V)=clsT V c):=by show _=_;rw [List.take_of_length_le (by rw [HMC.out];exact Nat.le_refl _)];rfl
     rw [HTK.out]
     have X7:=Lib.hid (Ext.trans hX.out hZ.out)
     cases hcl:clsT V c with
     | true=>
      have HG:=Lib.hid (HGO.out hcl)
      go_wp2_with fail
      go_roundw
      case rel=>exact ⟨j+1,by go_num,by omega,X7.out,HG.out⟩
      case measure=>simp [intOf] <;> omega
     | false=>
      have HB:=Lib.hid (HBAD.out hcl)
      go_wp2_with fail
      exact hR.out _ _ (Gives.mk (Ext.trans B1.out X7.out) (by rw [HB.out];rfl))
  ·obtain rfl:j=nc:=by omega
   have hd:decide ((j:Int) < (j:Int))=false:=decide_eq_false (by omega)
   have HALL:Hid (cls.all (clsT V)=true):=by
    show _=_
    rw [List.all_eq_true]
    intro c hc
    obtain ⟨i,hi,rfl⟩:=List.getElem_of_mem hc
    exact hP.out i hi (by rw [← HNC.out];exact hi)
   clear hP
   go_wp2_with fail
   exact hR.out _ _ (Gives.mk X04.out (by rw [HALL.out];rfl))
end Go.Proofs.YtdooldpgnjmpfaaGreatDoor
