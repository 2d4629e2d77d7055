/- proof.follows -/
import Derived.Test.YtdooldpgnjmpfaaGreatDoorSq
import Derived.Test.YtdooldpgnjmpfaaGreatDoorPartCG
import Derived.Test.YtdooldpgnjmpfaaGreatDoorPartBB
import Derived.Test.YtdooldpgnjmpfaaGreatDoorPartCC
import Derived.Test.YtdooldpgnjmpfaaGreatDoorPartDB
import Derived.Test.YtdooldpgnjmpfaaGreatDoorPOf22
namespace Go.Proofs.YtdooldpgnjmpfaaGreatDoor
open Go.RowKit Go.Att

abbrev pbQ (p:Pq AT):Pb:=⟨p.1.1,p.1.2,p.2.1,p.2.2⟩
def FolR (P:Pb) (B:List (Sq Rat)) (s:Sq Rat):Prop:=
 s.1.2∈P.cls∨(∃ e,(∀ l∈s.1.2,oppOk P l)∧RefV (s.1.2.map (oppL P)) s.2.2.2 true e)∨(∀ V:Int→Bool,(∀ c∈B.map (·.1.2),clsT V c=true)→clsT V s.1.2=true)
theorem etCs:ElemT Tryz.prog 23 44 (.slice none 0 0) 1 24:=ElemT.mk' Tryz.underlying23 (by kernel_rfl) rfl (by decide)
abbrev RwZ (w:World) (v:Value) (l:List Int):Prop:=RowY 1 IntT 3 w v l
theorem rwz_ext {w w':World} {v:Value} {l:List Int} (h:RwZ w v l) (x:Ext w w'):RwZ w' v l:=RowY.ext h IntT.ext x
theorem oppL_k {P:Pb} {l:Int} (hg:∀ a∈P.ats,SmK 230 a∧canA a=(a,0)) (h:oppOk P l):SmK 230 (oppL P l):=by
 have hm:gt P.ats ((l.natAbs:Int) - 1 - P.B).toNat∈P.ats:=gtm (by have h1:=h.1;have h2:=h.2.1;omega)
 obtain ⟨h1,h2⟩:=hg _ hm
 unfold oppL
 split
 ·exact h1
 ·have hf:=canT_self h2
  have hn:∀ q:Rat,Sz 230 q→Sz 230 ((-1)*q):=fun q hq=>by
   rw [show (-1:Rat)*q = -q by grind]
   exact hq.neg
  unfold oppA SmK
  dsimp only
  rw [sclE_id (by decide) hf]
  refine ⟨by rw [sclT_len];exact h1.1,fun x=>by rw [sclT_cf];exact hn _ (h1.2.1 x),fun t ht=>?_,hn _ h1.2.2.2⟩
  obtain ⟨u,hu,rfl⟩:=List.mem_map.1 ht
  exact hn _ (h1.2.2.1 u hu)
set_option linter.unusedSimpArgs false in
set_option maxHeartbeats 40000000 in
set_option maxRecDepth 100000 in
theorem follows_any {w:World} {vp vb vs:Value} {p:Pq AT} {B:List (Sq Rat)} {s:Sq Rat} (hp:RdPq OwnA (RowT 1 IntT) w vp p) (hg:GoodP kyA (pbQ p)) (hb:RdRow 5 QnS w vb B) (hs:QnS w vs s) (hB:∀ t∈B,SqOk t) (hS:SqOk s):
  Calls Tryz.prog 25 #[vp,vb,vs] w (Gives w fun v' _=>∃ b:Bool,v'=.bool b∧(b=true→FolR (pbQ p) B s)):=by
 refine via fun R hR=>?_
 have HS:=Lib.hid hS
 have HBB:=Lib.hid hB
 have HG1:Hid (∀ a∈(pbQ p).ats,SmK 230 a∧canA a=(a,0)):=fun a ha=>⟨(hg.sz a ha).k (hg.ga a ha).1,(hg.ga a ha).1⟩
 have HOP:Hid (∀ w' l,Ext w w'→In64 l→Calls Tryz.prog 38 #[vp,.int .i64 l] w' (Gives w' fun v' w'=>∃ u b a,v'=.tuple #[u,.bool b]∧OwnA w' u a∧(b=true→a=oppL (pbQ p) l∧oppOk (pbQ p) l))):=fun w' l x hl=>
  opp_any (hp.ext OwnAt.ext (fun h x=>RowT.ext h IntT.ext x) x) hl hg.B0 hg.B1 (by have:=hg.na;dsimp only at this;omega) fun a ha=>⟨(hg.sz a ha).sm,(hg.ga a ha).2.1,(hg.ga a ha).2.2.1⟩
 have hnc:p.2.2.length≤60:=hg.nc
 obtain ⟨P,hP⟩:∃ P,pbQ p=P:=⟨_,rfl⟩
 have HPC:Hid (P.cls=p.2.2):=by rw [← hP];exact Lib.hid rfl
 have HGC:Hid (∀ c∈p.2.2,c.length≤64):=fun c hc=>(hg.gc c hc).2.2
 rw [hP] at hR HOP HG1
 clear hP hg hS hB
 obtain ⟨aa,ca,aq,cq,rfl,-,hCL⟩:=hp
 obtain ⟨ab,kb,rfl,hkb,hmb⟩:=hb.shape
 obtain ⟨ax,kx,ay,ky,az,kz,rfl,hcl,hpr,htm⟩:=hs
 have HBR:=Lib.hid hb
 have HCL:=Lib.hid hCL
 have HC:=Lib.hid hcl
 have HPR:=Lib.hid hpr
 have HTM:=Lib.hid htm
 obtain ⟨⟨pR,pB⟩,ats,cls⟩:=p
 obtain ⟨⟨ru,c⟩,ix,pr,ts⟩:=s
 dsimp only at*
 unfold maxLen at hmb
 clear hb hCL hcl hpr htm
 generalize ats.length=na at*
 obtain ⟨nc,hncl⟩:∃ n,cls.length=n:=⟨_,rfl⟩
 have HNC:=Lib.hid hncl
 obtain ⟨nb,hnb⟩:∃ n,B.length=n:=⟨_,rfl⟩
 have HNB:=Lib.hid hnb
 obtain ⟨mc,hmc⟩:∃ n,c.length=n:=⟨_,rfl⟩
 have HMC:=Lib.hid hmc
 obtain ⟨mp,hmp⟩:∃ n,pr.length=n:=⟨_,rfl⟩
 have HMP:=Lib.hid hmp
 have HIC:Hid (∀ z∈c,In64 z):=HS.out.2.1
 have hmc40:mc≤40:=by rw [← hmc];exact HS.out.1
 have hmp40:mp≤40:=by rw [← hmp];exact HS.out.2.2.1
 rw [hncl] at HCL hnc HOP ⊢
 rw [hnb] at HBR hkb ⊢
 rw [hmc] at HC ⊢
 rw [hmp] at HPR ⊢
 clear hncl hnb hmc hmp
 generalize ts.length=nt at*
 obtain ⟨w1,hw1,b1,c1,c2,-,-,-⟩:=bx2 w [.int .i64 pR,.int .i64 pB,.slice aa na ca,.slice aq nc cq] [.int .i64 ru,.slice ax mc kx,.int .i64 ix,.slice ay mp ky,.slice az nt kz] 34 46
 have HW:=Lib.hid hw1
 have C1:=Lib.hid c1
 have C2:=Lib.hid c2
 have B1:=Lib.hid b1
 clear hw1 c1 c2 b1
 go_enter Tryz.func25,Tryz.ntmps25
 go_upto_region 1 with (fail)
 rw [← HW.out]
 clear HW
 obtain ⟨g0,g1,g2,g3,g4⟩:=C2.out.c5
 by_cases hr1:ru=1
 ·subst hr1
  go_upto_region 3 with fail
  clear g0 g1 g2 g3 g4
  by_cases hi0:ix < 0
  ·have d0:decide (ix ≥ 0)=false:=decide_eq_false (by omega)
   have d0':decide (0≤ix)=false:=decide_eq_false (by omega)
   have b2:=drew_ext w1
   have XE:=b2
   refine wp_region_noPanic ?_
   refine wp_region_held_drew (S:=fun w'=>(w'.cell? ⟨w.heap.size,0,none⟩=some (.int .i64 pR)∧w'.cell? ⟨w.heap.size,1,none⟩=some (.int .i64 pB)∧w'.cell? ⟨w.heap.size,2,none⟩=some (.slice aa na ca)∧w'.cell? ⟨w.heap.size,3,none⟩=some (.slice aq nc cq))∧(w'.cell? ⟨w.heap.size+1,0,none⟩=some (.int .i64 1)∧w'.cell? ⟨w.heap.size+1,1,none⟩=some (.slice ax mc kx)∧w'.cell? ⟨w.heap.size+1,2,none⟩=some (.int .i64 ix)∧w'.cell? ⟨w.heap.size+1,3,none⟩=some (.slice ay mp ky)∧w'.cell? ⟨w.heap.size+1,4,none⟩=some (.slice az nt kz))) (by kernel_rfl) (⟨(C1.out.ext XE).c4,(C2.out.ext XE).c5⟩) (fun hHeld=>?_)
   refine tkH 0 hHeld ?_
   simp only [jP,jA,jB,jC,jD,jE,jF]
   refine tkH 1 hHeld ?_
   simp only [jP,jA,jB,jC,jD,jE,jF]
   refine tkH 2 hHeld ?_
   simp only [jP,jA,jB,jC,jD,jE,jF]
   refine tkH 3 hHeld ?_
   simp only [jP,jA,jB,jC,jD,jE,jF]
   refine wpAnyH_take (i:=4) rfl (by kernel_rfl) (by kernel_rfl) (by kernel_rfl) (fun _ _ _ h=>h) (Or.inr ⟨by rfl,rfl⟩) hHeld ?_
   simp only [jP,jA,jB,jC,jD,jE,jF]
   refine wpAnyH_take (i:=5) rfl (by kernel_rfl) (by kernel_rfl) (by kernel_rfl) (fun _ _ _ h=>h) (Or.inr ⟨by rfl,rfl⟩) hHeld ?_
   simp only [jP,jA,jB,jC,jD,jE,jF]
   refine wpAnyH_take (i:=6) rfl (by kernel_rfl) (by kernel_rfl) (by kernel_rfl) (fun _ _ _ h=>h) (Or.inr ⟨by rfl,rfl⟩) hHeld ?_
   simp only [jP,jA,jB,jC,jD,jE,jF]
   refine wpAnyH_take (i:=7) rfl (by kernel_rfl) (by kernel_rfl) (by kernel_rfl) (fun _ _ _ h=>h) (Or.inr ⟨by rfl,rfl⟩) hHeld ?_
   simp only [jP,jA,jB,jC,jD,jE,jF]
   refine wpAnyH_take (i:=8) rfl (by kernel_rfl) (by kernel_rfl) (by kernel_rfl) (fun _ _ _ h=>h) (Or.inr ⟨by rfl,rfl⟩) hHeld ?_
   simp only [jP,jA,jB,jC,jD,jE,jF]
   refine wpAnyH_take (i:=9) rfl (by kernel_rfl) (by kernel_rfl) (by kernel_rfl) (fun _ _ _ h=>h) (Or.inr ⟨by rfl,rfl⟩) hHeld ?_
   simp only [jP,jA,jB,jC,jD,jE,jF]
   refine tkH 10 hHeld ?_
   simp only [jP,jA,jB,jC,jD,jE,jF]
   refine tkH 11 hHeld ?_
   simp only [jP,jA,jB,jC,jD,jE,jF]
   refine wpAnyH_take (i:=12) rfl (by kernel_rfl) (by kernel_rfl) (by kernel_rfl) (fun _ _ _ h=>h) (Or.inr ⟨by rfl,rfl⟩) hHeld ?_
   simp only [jP,jA,jB,jC,jD,jE,jF]
   refine wpAnyH_take (i:=13) rfl (by kernel_rfl) (by kernel_rfl) (by kernel_rfl) (fun _ _ _ h=>h) (Or.inr ⟨by rfl,rfl⟩) hHeld ?_
   simp only [jP,jA,jB,jC,jD,jE,jF]
   refine wpAnyH_take (i:=14) rfl (by kernel_rfl) (by kernel_rfl) (by kernel_rfl) (fun _ _ _ h=>h) (Or.inr ⟨by rfl,rfl⟩) hHeld ?_
   simp only [jP,jA,jB,jC,jD,jE,jF]
   refine wpAnyH_take (i:=15) rfl (by kernel_rfl) (by kernel_rfl) (by kernel_rfl) (fun _ _ _ h=>h) (Or.inr ⟨by rfl,rfl⟩) hHeld ?_
   simp only [jP,jA,jB,jC,jD,jE,jF]
   refine wpAnyH_take (i:=16) rfl (by kernel_rfl) (by kernel_rfl) (by kernel_rfl) (fun _ _ _ h=>h) (Or.inr ⟨by rfl,rfl⟩) hHeld ?_
   simp only [jP,jA,jB,jC,jD,jE,jF]
   refine wpAnyH_take (i:=17) rfl (by kernel_rfl) (by kernel_rfl) (by kernel_rfl) (fun _ _ _ h=>h) (Or.inr ⟨by rfl,rfl⟩) hHeld ?_
   simp only [jP,jA,jB,jC,jD,jE,jF]
   refine wpAnyH_take (i:=18) rfl (by kernel_rfl) (by kernel_rfl) (by kernel_rfl) (fun _ _ _ h=>h) (Or.inr ⟨by rfl,rfl⟩) hHeld ?_
   simp only [jP,jA,jB,jC,jD,jE,jF]
   refine wpAnyH_take (i:=19) rfl (by kernel_rfl) (by kernel_rfl) (by kernel_rfl) (fun _ _ _ h=>h) (Or.inr ⟨by rfl,rfl⟩) hHeld ?_
   simp only [jP,jA,jB,jC,jD,jE,jF]
   refine wpAnyH_take (i:=20) rfl (by kernel_rfl) (by kernel_rfl) (by kernel_rfl) (fun _ _ _ h=>h) (Or.inr ⟨by rfl,rfl⟩) hHeld ?_
   simp only [jP,jA,jB,jC,jD,jE,jF]
   refine tkH 21 hHeld ?_
   simp only [jP,jA,jB,jC,jD,jE,jF]
   refine tkH 22 hHeld ?_
   simp only [jP,jA,jB,jC,jD,jE,jF]
   refine wpAnyH_done (by kernel_rfl) ?_ _
   refine NoPanic.normal ?_
   go_wp2_with fail
   exact hR.out _ _ (Gives.mk (Ext.trans B1.out XE) ⟨false,rfl,fun h=>by cases h⟩)
  ·have d0:decide (ix ≥ 0)=true:=decide_eq_true (by omega)
   have d0':decide (0≤ix)=true:=decide_eq_true (by omega)
   obtain ⟨i,hi⟩:∃ i:Nat,ix=(i:Int):=⟨ix.toNat,by omega⟩
   subst hi
   by_cases hin:i < nc
   ·have d1:decide ((i:Int) < (nc:Int))=true:=decide_eq_true (by omega)
    have d1':decide (i < nc)=true:=decide_eq_true hin
    have hil:i < cls.length:=by rw [HNC.out];exact hin
    obtain ⟨bC,oC,xC,mC,he,hce,hrr⟩:=RdRow.rowC (HCL.out.ext (fun h x=>RowT.ext h IntT.ext x) B1.out) i hil
    subst he
    have CW:=Lib.hid (Bo.one hce)
    have HJ2:(0:Int)≤(i:Int)∧(i:Int) < (nc:Int):=⟨by omega,by omega⟩
    have HMEM:Hid (c=cls[i]→FolR P B ((1,c),(i:Int),pr,ts)):=fun h=>.inl (by rw [HPC.out];show c∈cls;rw [h];exact List.getElem_mem hil)
    have HEQ:Hid (∀ w',Ext w1 w'→Calls Tryz.prog 37 #[.slice ax mc kx,.slice xC cls[i].length mC] w' (Gives w' fun v' _=>v'=.bool (c == cls[i]))):=fun w' x=>equal_ints (HC.out.1.ext IntT.ext (Ext.trans B1.out x)) (hrr.ext IntT.ext x)
    clear hrr hce
    generalize cls[i]=ci at*
    generalize ci.length=lc at*
    clear hil
    have b2:=drew_ext w1
    have XE:=b2
    refine wp_region_noPanic ?_
    refine wp_region_held_drew (S:=fun w'=>(w'.cell? ⟨w.heap.size,0,none⟩=some (.int .i64 pR)∧w'.cell? ⟨w.heap.size,1,none⟩=some (.int .i64 pB)∧w'.cell? ⟨w.heap.size,2,none⟩=some (.slice aa na ca)∧w'.cell? ⟨w.heap.size,3,none⟩=some (.slice (some ⟨bC,oC,none⟩) nc cq))∧(w'.cell? ⟨w.heap.size+1,0,none⟩=some (.int .i64 1)∧w'.cell? ⟨w.heap.size+1,1,none⟩=some (.slice ax mc kx)∧w'.cell? ⟨w.heap.size+1,2,none⟩=some (.int .i64 (i:Int))∧w'.cell? ⟨w.heap.size+1,3,none⟩=some (.slice ay mp ky)∧w'.cell? ⟨w.heap.size+1,4,none⟩=some (.slice az nt kz))∧(w'.cell? ⟨bC,oC+i,none⟩=some (.slice xC lc mC))) (by kernel_rfl) (⟨(C1.out.ext XE).c4,(C2.out.ext XE).c5,(CW.out.ext XE).c1⟩) (fun hHeld=>?_)
    refine tkH 0 hHeld ?_
    simp only [jP,jA,jB,jC,jD,jE,jF]
    refine tkH 1 hHeld ?_
    simp only [jP,jA,jB,jC,jD,jE,jF]
    refine tkH 2 hHeld ?_
    simp only [jP,jA,jB,jC,jD,jE,jF]
    refine tkH 3 hHeld ?_
    simp only [jP,jA,jB,jC,jD,jE,jF]
    refine tkH 4 hHeld ?_
    simp only [jP,jA,jB,jC,jD,jE,jF]
    refine tkH 5 hHeld ?_
    simp only [jP,jA,jB,jC,jD,jE,jF]
    refine tkH 6 hHeld ?_
    simp only [jP,jA,jB,jC,jD,jE,jF]
    refine tkH 7 hHeld ?_
    simp only [jP,jA,jB,jC,jD,jE,jF]
    refine tkH 8 hHeld ?_
    simp only [jP,jA,jB,jC,jD,jE,jF]
    refine tkH 9 hHeld ?_
    simp only [jP,jA,jB,jC,jD,jE,jF]
    refine tkH 10 hHeld ?_
    simp only [jP,jA,jB,jC,jD,jE,jF]
    refine tkH 11 hHeld ?_
    simp only [jP,jA,jB,jC,jD,jE,jF]
    refine tkH 12 hHeld ?_
    simp only [jP,jA,jB,jC,jD,jE,jF]
    refine tkH 13 hHeld ?_
    simp only [jP,jA,jB,jC,jD,jE,jF]
    refine tkH 14 hHeld ?_
    simp only [jP,jA,jB,jC,jD,jE,jF]
    refine tkH 15 hHeld ?_
    simp only [jP,jA,jB,jC,jD,jE,jF]
    refine tkH 16 hHeld ?_
    simp only [jP,jA,jB,jC,jD,jE,jF]
    refine tkH 17 hHeld ?_
    simp only [jP,jA,jB,jC,jD,jE,jF]
    refine tkH 18 hHeld ?_
    simp only [jP,jA,jB,jC,jD,jE,jF]
    refine tkH 19 hHeld ?_
    simp only [jP,jA,jB,jC,jD,jE,jF]
    refine rdH 20 (by kernel_rfl) rfl (fun K hK=>?_)
    go_simp
    go_at_call 37;refine (HEQ.out _ XE).mono ?_;rintro e w3 ⟨_,rfl,b3,rfl⟩;(first | have XE:=Ext.trans XE b3 | have XE:=Ext.trans (Ext.trans XE (Ext.alloc _ _)) b3)
    go_wp2_with fail
    refine hK.out _ _ (⟨(C1.out.ext XE).c4,(C2.out.ext XE).c5,(CW.out.ext XE).c1⟩) (fun hHeld=>?_)
    clear hK K
    try simp only [jP,jA,jB,jC,jD,jE,jF]
    refine tkH 21 hHeld ?_
    simp only [jP,jA,jB,jC,jD,jE,jF]
    refine tkH 22 hHeld ?_
    simp only [jP,jA,jB,jC,jD,jE,jF]
    refine wpAnyH_done (by kernel_rfl) ?_ _
    refine NoPanic.normal ?_
    go_wp2_with fail
    exact hR.out _ _ (Gives.mk (Ext.trans B1.out XE) ⟨_,rfl,fun h=>HMEM.out (eq_of_beq h)⟩)
   ·have d1:decide ((i:Int) < (nc:Int))=false:=decide_eq_false (by omega)
    have d1':decide (i < nc)=false:=decide_eq_false hin
    have b2:=drew_ext w1
    have XE:=b2
    refine wp_region_noPanic ?_
    refine wp_region_held_drew (S:=fun w'=>(w'.cell? ⟨w.heap.size,0,none⟩=some (.int .i64 pR)∧w'.cell? ⟨w.heap.size,1,none⟩=some (.int .i64 pB)∧w'.cell? ⟨w.heap.size,2,none⟩=some (.slice aa na ca)∧w'.cell? ⟨w.heap.size,3,none⟩=some (.slice aq nc cq))∧(w'.cell? ⟨w.heap.size+1,0,none⟩=some (.int .i64 1)∧w'.cell? ⟨w.heap.size+1,1,none⟩=some (.slice ax mc kx)∧w'.cell? ⟨w.heap.size+1,2,none⟩=some (.int .i64 (i:Int))∧w'.cell? ⟨w.heap.size+1,3,none⟩=some (.slice ay mp ky)∧w'.cell? ⟨w.heap.size+1,4,none⟩=some (.slice az nt kz))) (by kernel_rfl) (⟨(C1.out.ext XE).c4,(C2.out.ext XE).c5⟩) (fun hHeld=>?_)
    refine tkH 0 hHeld ?_
    simp only [jP,jA,jB,jC,jD,jE,jF]
    refine tkH 1 hHeld ?_
    simp only [jP,jA,jB,jC,jD,jE,jF]
    refine tkH 2 hHeld ?_
    simp only [jP,jA,jB,jC,jD,jE,jF]
    refine tkH 3 hHeld ?_
    simp only [jP,jA,jB,jC,jD,jE,jF]
    refine tkH 4 hHeld ?_
    simp only [jP,jA,jB,jC,jD,jE,jF]
    refine tkH 5 hHeld ?_
    simp only [jP,jA,jB,jC,jD,jE,jF]
    refine tkH 6 hHeld ?_
    simp only [jP,jA,jB,jC,jD,jE,jF]
    refine tkH 7 hHeld ?_
    simp only [jP,jA,jB,jC,jD,jE,jF]
    refine tkH 8 hHeld ?_
    simp only [jP,jA,jB,jC,jD,jE,jF]
    refine tkH 9 hHeld ?_
    simp only [jP,jA,jB,jC,jD,jE,jF]
    refine tkH 10 hHeld ?_
    simp only [jP,jA,jB,jC,jD,jE,jF]
    refine tkH 11 hHeld ?_
    simp only [jP,jA,jB,jC,jD,jE,jF]
    refine wpAnyH_take (i:=12) rfl (by kernel_rfl) (by kernel_rfl) (by kernel_rfl) (fun _ _ _ h=>h) (Or.inr ⟨by rfl,rfl⟩) hHeld ?_
    simp only [jP,jA,jB,jC,jD,jE,jF]
    refine wpAnyH_take (i:=13) rfl (by kernel_rfl) (by kernel_rfl) (by kernel_rfl) (fun _ _ _ h=>h) (Or.inr ⟨by rfl,rfl⟩) hHeld ?_
    simp only [jP,jA,jB,jC,jD,jE,jF]
    refine wpAnyH_take (i:=14) rfl (by kernel_rfl) (by kernel_rfl) (by kernel_rfl) (fun _ _ _ h=>h) (Or.inr ⟨by rfl,rfl⟩) hHeld ?_
    simp only [jP,jA,jB,jC,jD,jE,jF]
    refine wpAnyH_take (i:=15) rfl (by kernel_rfl) (by kernel_rfl) (by kernel_rfl) (fun _ _ _ h=>h) (Or.inr ⟨by rfl,rfl⟩) hHeld ?_
    simp only [jP,jA,jB,jC,jD,jE,jF]
    refine wpAnyH_take (i:=16) rfl (by kernel_rfl) (by kernel_rfl) (by kernel_rfl) (fun _ _ _ h=>h) (Or.inr ⟨by rfl,rfl⟩) hHeld ?_
    simp only [jP,jA,jB,jC,jD,jE,jF]
    refine wpAnyH_take (i:=17) rfl (by kernel_rfl) (by kernel_rfl) (by kernel_rfl) (fun _ _ _ h=>h) (Or.inr ⟨by rfl,rfl⟩) hHeld ?_
    simp only [jP,jA,jB,jC,jD,jE,jF]
    refine wpAnyH_take (i:=18) rfl (by kernel_rfl) (by kernel_rfl) (by kernel_rfl) (fun _ _ _ h=>h) (Or.inr ⟨by rfl,rfl⟩) hHeld ?_
    simp only [jP,jA,jB,jC,jD,jE,jF]
    refine wpAnyH_take (i:=19) rfl (by kernel_rfl) (by kernel_rfl) (by kernel_rfl) (fun _ _ _ h=>h) (Or.inr ⟨by rfl,rfl⟩) hHeld ?_
    simp only [jP,jA,jB,jC,jD,jE,jF]
    refine wpAnyH_take (i:=20) rfl (by kernel_rfl) (by kernel_rfl) (by kernel_rfl) (fun _ _ _ h=>h) (Or.inr ⟨by rfl,rfl⟩) hHeld ?_
    simp only [jP,jA,jB,jC,jD,jE,jF]
    refine tkH 21 hHeld ?_
    simp only [jP,jA,jB,jC,jD,jE,jF]
    refine tkH 22 hHeld ?_
    simp only [jP,jA,jB,jC,jD,jE,jF]
    refine wpAnyH_done (by kernel_rfl) ?_ _
    refine NoPanic.normal ?_
    go_wp2_with fail
    exact hR.out _ _ (Gives.mk (Ext.trans B1.out XE) ⟨false,rfl,fun h=>by cases h⟩)
 ·have f1:(ru == 1)=false:=beq_false_of_ne hr1
  have f1':decide (ru=1)=false:=decide_eq_false hr1
  by_cases hr2:ru=2
  ·subst hr2
   go_upto_region 7 with fail
   clear g0 g1 g2 g3 g4 f1 f1' hr1
   go_loopw [7,50] (fun o t wr=>∃ j:Nat,t=.int .i64 j∧j≤mc∧Hid (Ext w1 wr)∧Hid (OwnRow 5 OwnA 63 w1.heap.size wr o ((c.take j).map (oppL P)))∧Hid (∀ l∈c.take j,oppOk P l)) (fun _ t _=>mc - (intOf t).toNat)
   case atStart=>exact ⟨0,rfl,Nat.zero_le _,Lib.hid (Ext.refl _),by rw [List.take_zero];exact Lib.hid (OwnRow.nil _ _ _),Lib.hid fun l h=>by rw [List.take_zero] at h;cases h⟩
   case round=>
    obtain ⟨j,rfl,hj,hX,hO,hK⟩:=hrel
    obtain ⟨w4,hw4⟩:∃ w0:World,w0=wr:=⟨_,rfl⟩
    subst hw4
    have X04:=Lib.hid (Ext.trans B1.out hX.out)
    by_cases hjn:j < mc
    ·have hd:decide ((j:Int) < (mc:Int))=true:=decide_eq_true (by omega)
     have HJ1:IntKind.i64.wrap ((j:Int)+1)=((j+1:Nat):Int):=by rw [IntKind.wrap_i64];omega
     have HJ2:(0:Int)≤(j:Int)∧(j:Int) < (mc:Int):=⟨by omega,by omega⟩
     have hjl:j < c.length:=by rw [HMC.out];exact hjn
     obtain ⟨b8,o8,he8,hc8⟩:=(HC.out.1.ext IntT.ext X04.out).intAt j hjl
     subst he8
     have HTK:Hid ((c.take (j+1)).map (oppL P)=(c.take j).map (oppL P) ++ [oppL P c[j]]):=by show _=_;rw [← List.take_append_getElem hjl,List.map_append];rfl
     have HKK:Hid (oppOk P c[j]→∀ l∈c.take (j+1),oppOk P l):=fun h l hl=>by
      rw [← List.take_append_getElem hjl] at hl
      rcases List.mem_append.1 hl with hl | hl
      ·exact hK.out l hl
      ·rw [List.mem_singleton.1 hl];exact h
     have HPP:=Lib.hid (HOP.out w4 c[j] X04.out (HIC.out _ (List.getElem_mem hjl)))
     have HLO:Hid (((c.take j).map (oppL P)).length≤40):=by show _≤_;rw [List.length_map,List.length_take];omega
     generalize (c.take j).map (oppL P)=lo at*
     generalize oppL P c[j]=ol at*
     generalize oppOk P c[j]=ok at*
     generalize c[j]=l at*
     clear hjl
     obtain ⟨k0,k1,k2,k3⟩:=(C1.out.ext hX.out).c4
     go_upto_region 10 with (go_at_call 38;refine HPP.out.mono ?_;rintro e w5 ⟨_,rfl,X5,u,b5,a5,rfl,o5,hb5⟩;have HB5:=Lib.hid hb5;obtain ⟨e0,e1,e2,e3,e4,e5,e6,e7,e8,rfl,O5⟩:=OwnAt.op o5;obtain ⟨w6,hw6,b6,c6,-,-⟩:=bx1 w5 [.slice e0 a5.1.1.length e1,.bool e2,.slice e3 e4 e5,.slice e6 e7 e8,.int .i64 a5.2] 63;have HW:=Lib.hid hw6;have C6:=Lib.hid c6;have X46:=Lib.hid (Ext.trans X5 b6);have O6:=Lib.hid (o5.ext b6);clear hw6 c6 b6 o5 hb5)
     rw [← HW.out]
     clear HW k0 k1 k2 k3 HPP O5
     cases b5 with
     | false=>
      go_wp2_with fail
      exact hR.out _ _ (Gives.mk (Ext.trans X04.out X46.out) ⟨false,rfl,fun h=>by cases h⟩)
     | true=>
      obtain ⟨rfl,hok⟩:=HB5.out rfl
      have HK2:=Lib.hid (HKK.out hok)
      clear hok HB5 HKK
      obtain ⟨q0,q1,q2,q3,q4⟩:=C6.out.c5
      have XT:=Lib.hid (Ext.trans hX.out X46.out)
      go_wp2_with (refine build1W etAt (by rfl) (by rfl) (T:=OwnA) OwnAt.ext (by rfl) [.slice e0 a5.1.1.length e1,.bool e2,.slice e3 e4 e5,.slice e6 e7 e8,.int .i64 a5.2] (fill_a1 ..) rfl (by decide) (y:=a5) O6.out ?_;intro g8 w8 x8 _ l8;refine append_rowGL etAt (kdAt (by decide) (by decide)) (by rfl) _ _ (by rfl) w1.heap.size (by rfl) (hO.out.ext OwnAt.ext (Ext.trans X46.out x8)) (by rfl) l8.rd (by have:=HLO.out;omega) (by unfold maxLen;have:=HLO.out;omega) (Below.size (Ext.trans XT.out x8)) ?_;intro v9 w9 o9 b9 g9 _;have O9:=Lib.hid o9;have X9:=Lib.hid (Below.trans (Ext.trans XT.out x8) b9);clear o9 b9 g9 l8 x8)
      go_roundw
      case rel=>exact ⟨j+1,by go_num,by omega,X9.out,by rw [HTK.out];exact O9,HK2⟩
      case measure=>simp [intOf] <;> omega
    ·obtain rfl:j=mc:=by omega
     have hd:decide ((j:Int) < (j:Int))=false:=decide_eq_false (by omega)
     have HTK:Hid (c.take j=c):=by show _=_;rw [← HMC.out,List.take_length]
     rw [HTK.out] at hO hK
     have HRF:Hid (∀ v,OwnRow 5 OwnA 63 w1.heap.size w4 v (c.map (oppL P))→Calls Tryz.prog 39 #[v,.slice az nt kz] w4 (Gives w4 fun v' _=>∃ t e,v'=.tuple #[.bool t,.int .i64 e]∧RefV (c.map (oppL P)) ts t e)):=fun v h=>by
      refine frefutes_z 230 8 40 h.rd (HTM.out.1.ext OwnQ.ext X04.out) (fun a ha=>?_) HS.out.2.2.2.2.2 (by rw [List.length_map,HMC.out];exact hmc40) (by decide) (by decide) (by decide)
      obtain ⟨l,hl,rfl⟩:=List.mem_map.1 ha
      exact oppL_k HG1.out (hK.out l hl)
     have HFO:Hid (RefV (c.map (oppL P)) ts true 0→FolR P B ((2,c),ix,pr,ts)):=fun h=>.inr (.inl ⟨0,hK.out,h⟩)
     obtain ⟨g0,g1,g2,g3,g4⟩:=(C2.out.ext hX.out).c5
     obtain ⟨ao,ko,rfl,-,-⟩:=hO.out.rd.shape
     have HRC:=Lib.hid (HRF.out _ hO.out)
     clear HRF hO hK HTK
     generalize c.map (oppL P)=lo at*
     generalize lo.length=no at*
     go_upto_region 15 with (go_at_call 39;refine HRC.out.mono ?_;rintro e w5 ⟨_,rfl,X5,t5,e5,rfl,hv5⟩;have X5:=Lib.hid X5;have HV5:=Lib.hid hv5;clear hv5)
     by_cases h5:e5=0
     ·subst h5
      go_wp2_with fail
      exact hR.out _ _ (Gives.mk (Ext.trans X04.out X5.out) ⟨t5,rfl,fun h=>by subst h;exact HFO.out HV5.out⟩)
     ·have d5:(e5 == 0)=false:=beq_false_of_ne h5
      have d5':decide (e5=0)=false:=decide_eq_false h5
      go_wp2_with fail
      exact hR.out _ _ (Gives.mk (Ext.trans X04.out X5.out) ⟨false,rfl,fun h=>by cases h⟩)
  ·have f2:(ru == 2)=false:=beq_false_of_ne hr2
   have f2':decide (ru=2)=false:=decide_eq_false hr2
   by_cases hp2:mp < 2
   ·have d0:decide ((mp:Int) < 2)=true:=decide_eq_true (by omega)
    have d0':decide (mp < 2)=true:=decide_eq_true hp2
    go_wp2_with fail
    exact hR.out _ _ (Gives.mk B1.out ⟨false,rfl,fun h=>by cases h⟩)
   ·have d0:decide ((mp:Int) < 2)=false:=decide_eq_false (by omega)
    have d0':decide (mp < 2)=false:=decide_eq_false hp2
    go_upto_region 20 with fail
    clear g0 g1 g2 g3 g4 f1 f1' hr1 f2 f2' hr2 d0 d0'
    go_loopw [14,86] (fun o t wr=>∃ (j:Nat) (cs:List (List Int)),t=.int .i64 j∧j≤mp∧Hid (Ext w1 wr)∧Hid (OwnRow 1 RwZ 44 w1.heap.size wr o cs)∧Hid (cs.length≤j)∧Hid (∀ d∈cs,∃ t∈B,t.1.2=d)) (fun _ t _=>mp - (intOf t).toNat)
    case atStart=>exact ⟨0,[],rfl,Nat.zero_le _,Lib.hid (Ext.refl _),Lib.hid (OwnRow.nil _ _ _),Lib.hid (Nat.le_refl _),Lib.hid fun d h=>by cases h⟩
    case round=>
     obtain ⟨j,cs,rfl,hj,hX,hO,hLn,hK⟩:=hrel
     obtain ⟨w4,hw4⟩:∃ w0:World,w0=wr:=⟨_,rfl⟩
     subst hw4
     have X04:=Lib.hid (Ext.trans B1.out hX.out)
     by_cases hjn:j < mp
     ·have hd:decide ((j:Int) < (mp:Int))=true:=decide_eq_true (by omega)
      have HJ1:IntKind.i64.wrap ((j:Int)+1)=((j+1:Nat):Int):=by rw [IntKind.wrap_i64];omega
      have HJ2:(0:Int)≤(j:Int)∧(j:Int) < (mp:Int):=⟨by omega,by omega⟩
      have hjl:j < pr.length:=by rw [HMP.out];exact hjn
      obtain ⟨b8,o8,he8,hc8⟩:=(HPR.out.1.ext IntT.ext X04.out).intAt j hjl
      subst he8
      generalize pr[j]=q at*
      clear hjl
      by_cases hq0:q < 0
      ·have d1:decide (q < 0)=true:=decide_eq_true hq0
       go_wp2_with fail
       exact hR.out _ _ (Gives.mk X04.out ⟨false,rfl,fun h=>by cases h⟩)
      ·have d1:decide (q < 0)=false:=decide_eq_false hq0
       obtain ⟨i,hi⟩:∃ i:Nat,q=(i:Int):=⟨q.toNat,by omega⟩
       subst hi
       by_cases hin:nb≤i
       ·have d2:decide ((i:Int) ≥ (nb:Int))=true:=decide_eq_true (by omega)
        have d2':decide ((nb:Int)≤(i:Int))=true:=decide_eq_true (by omega)
        have d2'':decide (nb≤i)=true:=decide_eq_true hin
        go_wp2_with fail
        exact hR.out _ _ (Gives.mk X04.out ⟨false,rfl,fun h=>by cases h⟩)
       ·have d2:decide ((i:Int) ≥ (nb:Int))=false:=decide_eq_false (by omega)
        have d2':decide ((nb:Int)≤(i:Int))=false:=decide_eq_false (by omega)
        have d2'':decide (nb≤i)=false:=decide_eq_false hin
        have hil:i < B.length:=by rw [HNB.out];omega
        have HK2:(0:Int)≤(i:Int)∧(i:Int) < (nb:Int):=⟨by omega,by omega⟩
        obtain ⟨bS,oS,x5,k5,y5,m5,z5,j5,hae,hbo,hq1,-,-⟩:=(HBR.out.ext qns_ext X04.out).sq i hil
        subst hae
        obtain ⟨u0,u1,u2,u3,u4⟩:=hbo.c5
        have HMEM:Hid (∃ t∈B,t.1.2=B[i].1.2):=⟨_,List.getElem_mem hil,rfl⟩
        have HQ1:Hid (RwZ w4 (.agg #[.slice x5 B[i].1.2.length k5]) B[i].1.2):=⟨_,_,rfl,hq1⟩
        generalize B[i].1.1=r9 at*
        generalize B[i].1.2=d9 at*
        generalize B[i].2.1=i9 at*
        generalize B[i].2.2.1.length=p9 at*
        generalize B[i].2.2.2.length=t9 at*
        have HLO:Hid (cs.length≤40):=by have:=hLn.out;exact Lib.hid (by omega)
        clear hbo hq1 hil
        go_wp2_with (refine build1W etCs (by rfl) (by rfl) (T:=RwZ) rwz_ext (by rfl) [.slice x5 d9.length k5] (fill_s1 ..) rfl (by decide) (y:=d9) HQ1.out ?_;intro g8 w8 x8 _ l8;refine append_rowGL etCs (kdY (by decide) (kdI _)) (by rfl) _ _ (by rfl) w1.heap.size (by rfl) (hO.out.ext rwz_ext x8) (by rfl) l8.rd (by have:=HLO.out;omega) (by unfold maxLen;have:=HLO.out;omega) (Below.size (Ext.trans hX.out x8)) ?_;intro v9 w9 o9 b9 g9 _;have O9:=Lib.hid o9;have X9:=Lib.hid (Below.trans (Ext.trans hX.out x8) b9);clear o9 b9 g9 l8 x8)
        go_roundw
        case rel=>exact ⟨j+1,cs ++ [d9],by go_num,by omega,X9.out,O9.out,Lib.hid (by have:=hLn.out;rw [List.length_append];simp;omega),Lib.hid fun d hd=>(List.mem_append.1 hd).elim (hK.out d) fun h=>by rw [List.mem_singleton.1 h];exact HMEM.out⟩
        case measure=>simp [intOf] <;> omega
     ·obtain rfl:j=mp:=by omega
      have hd:decide ((j:Int) < (j:Int))=false:=decide_eq_false (by omega)
      have HCH:=Lib.hid (chain_any (RdRow.mono hO.out.rd fun _ _ h=>RowY.rd h) (fun d hd z hz=>by obtain ⟨t,ht,rfl⟩:=hK.out d hd;exact (HBB.out t ht).2.1 z hz) (fun d hd=>by obtain ⟨t,ht,rfl⟩:=hK.out d hd;have:=(HBB.out t ht).1;omega) (by have:=hLn.out;omega))
      have HFO:Hid (Chn cs c→FolR P B ((ru,c),ix,pr,ts)):=fun h=>.inr (.inr fun V hV=>h V fun d hd=>by
       obtain ⟨t,ht,rfl⟩:=hK.out d hd
       exact hV _ (List.mem_map.2 ⟨t,ht,rfl⟩))
      obtain ⟨ao,ko,rfl,-,-⟩:=hO.out.rd.shape
      clear hO hK
      generalize cs.length=no at*
      go_upto_region 27 with (go_at_call 40;refine HCH.out.mono ?_;rintro e w5 ⟨_,rfl,X5,p5,n5,c5,e5,rfl,G5⟩;have G5:=Lib.hid G5;have X5:=Lib.hid X5)
      rcases G5.out with h5 | ⟨rfl,r5,hn5,T5,hch⟩
      ·have d5:(e5 == 0)=false:=beq_false_of_ne h5
       have d5':decide (e5=0)=false:=decide_eq_false h5
       clear G5 h5
       go_wp2_with fail
       exact hR.out _ _ (Gives.mk (Ext.trans X04.out X5.out) ⟨false,rfl,fun h=>by cases h⟩)
      ·have HCN:=Lib.hid hch
       have HEQ:Hid (Calls Tryz.prog 37 #[.slice p5 n5 c5,.slice ax mc kx] w5 (Gives w5 fun v' _=>v'=.bool (r5 == c))):=equal_ints T5.1 (HC.out.1.ext IntT.ext (Ext.trans X04.out X5.out))
       clear G5 T5 hch hn5
       obtain ⟨g0,g1,g2,g3,g4⟩:=(C2.out.ext (Ext.trans hX.out X5.out)).c5
       go_wp2_with (go_at_call 37;refine HEQ.out.mono ?_;rintro e w6 ⟨_,rfl,X6,rfl⟩;have X6:=Lib.hid X6)
       exact hR.out _ _ (Gives.mk (Ext.trans X04.out (Ext.trans X5.out X6.out)) ⟨_,rfl,fun h=>by have:=eq_of_beq h;subst this;exact HFO.out HCN.out⟩)
end Go.Proofs.YtdooldpgnjmpfaaGreatDoor
