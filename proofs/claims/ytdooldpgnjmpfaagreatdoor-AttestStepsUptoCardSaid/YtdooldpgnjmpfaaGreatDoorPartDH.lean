/- A group of texts: POf14, PList9Z -/
import Derived.Test.YtdooldpgnjmpfaaGreatDoorSq
import Derived.Test.YtdooldpgnjmpfaaGreatDoorPTidy
import Derived.Test.YtdooldpgnjmpfaaGreatDoorPartCC
import Derived.Test.YtdooldpgnjmpfaaGreatDoorPartCA
import Derived.Test.YtdooldpgnjmpfaaGreatDoorPartDD
import Derived.Test.YtdooldpgnjmpfaaGreatDoorPartDE
import Derived.Test.YtdooldpgnjmpfaaGreatDoorPartCE
namespace Go.Proofs.YtdooldpgnjmpfaaGreatDoor
open Go.RowKit Go.Att

theorem cells_NA {w:World} {cs:List Value} {p:NAT} (h:RdNA w (.agg cs.toArray) p):∃ a k y z,cs=[.slice a p.1.1.length k,.bool p.1.2.1,y,z,.int .i64 p.2]∧RdNE w (.agg #[.slice a p.1.1.length k,.bool p.1.2.1,y,z]) p.1.1 p.1.2:=by
 obtain ⟨a,k,y,z,he,h1⟩:=RdNA.op h
 exact ⟨a,k,y,z,by simpa using he,h1⟩
set_option maxRecDepth 100000 in
set_option maxHeartbeats 40000000 in
set_option linter.unusedSimpArgs false in
theorem of14_any {w:World} {v:Value} {p:Pq NAT} (hp:RdPq RdNA (RowT 1 IntT) w v p) (hz:∀ c∈p.2.2,∀ z∈c,In64 z) (hb:∀ a∈p.2.1,(∀ t∈a.1.1,Nlt 1000000000 t.2)∧Nlt 1000000000 a.1.2):
  Calls Tryz.prog 6 #[v] w (Gives w fun v' w'=>∃ x:Pq AT,OwnPq w' v' x∧x.2.1.length≤40∧x.2.2.length≤60∧(∀ a∈x.2.1,Smx a.1.1 a.1.2)∧∀ c∈x.2.2,c.length≤70∧∀ l∈c,In64 l):=by
 refine via fun R hR=>?_
 obtain ⟨aa,ca,aq,cq,rfl,hAT,hCL⟩:=hp
 obtain ⟨⟨pR,pB⟩,ats,cls⟩:=p
 dsimp only at*
 have HAT:=Lib.hid hAT
 have HCL:=Lib.hid hCL
 have HZ:=Lib.hid hz
 have HBB:=Lib.hid hb
 clear hAT hCL hz hb
 obtain ⟨n,hnl⟩:∃ n,ats.length=n:=⟨_,rfl⟩
 have HNA:=Lib.hid hnl
 obtain ⟨nc,hncl⟩:∃ n,cls.length=n:=⟨_,rfl⟩
 have HNC:=Lib.hid hncl
 rw [hnl] at HAT ⊢
 rw [hncl] at HCL ⊢
 clear hnl hncl
 obtain ⟨w1,hw1,b1,c1,c2,-,-,hs1⟩:=bx2 w [.int .i64 pR,.int .i64 pB,.slice aa n ca,.slice aq nc cq] [.int .i64 0,.int .i64 0,.slice none 0 0,.slice none 0 0] 25 34
 have HW:=Lib.hid hw1
 have C1:=Lib.hid c1
 have B1:=Lib.hid b1
 have R2:Hid (Rt w1 (w.heap.size+1) 4 34):=by
  show Rt _ _ _ _
  rw [hw1]
  have:=Rt.new (w.alloc (.cells #[.int .i64 pR,.int .i64 pB,.slice aa n ca,.slice aq nc cq] 25)) [.int .i64 0,.int .i64 0,.slice none 0 0,.slice none 0 0] 34
  simpa using this
 clear hw1 c1 c2 b1 hs1
 go_enter Tryz.func6,Tryz.ntmps6
 go_upto_region 1 with (fail)
 rw [← HW.out]
 clear HW
 obtain ⟨k0,k1,k2,k3⟩:=C1.out.c4
 obtain ⟨w2,hw2,b2,c3,-,hs2⟩:=bx1 w1 [.int .i64 pR,.int .i64 pB,.slice none 0 0,.slice none 0 0] 34
 have HW:=Lib.hid hw2
 have R3:Hid (Rt w2 w1.heap.size 4 34):=by
  show Rt _ _ _ _
  rw [hw2]
  exact Rt.new w1 [.int .i64 pR,.int .i64 pB,.slice none 0 0,.slice none 0 0] 34
 have C3:=Lib.hid c3
 have B2:=Lib.hid b2
 clear hw2 c3 b2 hs2
 obtain ⟨X,hX⟩:∃ X,w1.heap.size=X:=⟨_,rfl⟩
 have HXX:Hid (w1.heap.size≤X):=Nat.le_of_eq hX
 rw [hX] at R3 C3
 have HEX:=Lib.hid hX
 clear hX
 go_upto_region 2 with (fail)
 rw [← HW.out,HEX.out]
 clear HW k0 k1 k2 k3 HEX
 go_wp2_with fail
 go_loopw [4] (fun t wr=>∃ (i:Nat) (L:List AT) (aL:Option Addr) (kL:Nat),t=.int .i64 i∧i≤n∧i≤40∧Hid (Ext w1 wr)∧Hid (Bx wr X [.int .i64 pR,.int .i64 pB,.slice aL L.length kL,.slice none 0 0])∧Hid (Rt wr X 4 34)∧Hid (OwnRow 5 OwnA 63 w1.heap.size wr (.slice aL L.length kL) L)∧Hid (L.length≤i)∧Hid (∀ a∈L,Smx a.1.1 a.1.2)) (fun t _=>40 - (intOf t).toNat)
 case atStart=>exact ⟨0,[],none,0,rfl,Nat.zero_le _,Nat.zero_le _,B2,C3,R3,Lib.hid (OwnRow.nil _ _ _),Lib.hid (Nat.le_refl _),Lib.hid fun a h=>by cases h⟩
 case round=>
  clear B2 C3 R3
  obtain ⟨i,L,aL,kL,rfl,hi,hi4,hX,hC,hRt,hO,hLn,hLs⟩:=hrel
  obtain ⟨w6,hw6⟩:∃ w0:World,w0=wr:=⟨_,rfl⟩
  subst hw6
  have X06:=Lib.hid (Ext.trans B1.out hX.out)
  have C16:=Lib.hid (C1.out.ext hX.out)
  obtain ⟨k0,k1,k2,k3⟩:=C16.out.c4
  go_upto_region 3 with (fail)
  go_cut [20] (fun s20 wx=>s20=.bool (decide (i < n∧i < 40))∧w6=wx)
  case first=>
   by_cases h1:i < n
   ·have hd:decide ((i:Int) < (n:Int))=true:=decide_eq_true (by omega)
    have hd':decide (i < n)=true:=decide_eq_true h1
    by_cases h2:i < 40
    ·have hd2:decide ((i:Int) < 40)=true:=decide_eq_true (by omega)
     have hd2':decide (i < 40)=true:=decide_eq_true h2
     go_wp2_with fail
     go_meet
     exact ⟨by rw [decide_eq_true (⟨h1,h2⟩:i < n∧i < 40)],rfl⟩
    ·have hd2:decide ((i:Int) < 40)=false:=decide_eq_false (by omega)
     have hd2':decide (i < 40)=false:=decide_eq_false h2
     go_wp2_with fail
     go_meet
     exact ⟨by rw [decide_eq_false (fun h:i < n∧i < 40=>h2 h.2)],rfl⟩
   ·have hd:decide ((i:Int) < (n:Int))=false:=decide_eq_false (by omega)
    have hd':decide (i < n)=false:=decide_eq_false h1
    go_wp2_with fail
    go_meet
    exact ⟨by rw [decide_eq_false (fun h:i < n∧i < 40=>h1 h.1)],rfl⟩
  case rest=>
   obtain ⟨rfl,rfl⟩:=hcut
   by_cases hlt:i < n∧i < 40
   ·have hdd:decide (i < n∧i < 40)=true:=decide_eq_true hlt
    rw [hdd]
    have HJ1:IntKind.i64.wrap ((i:Int)+1)=((i+1:Nat):Int):=by rw [IntKind.wrap_i64];omega
    have HI2:(0:Int)≤(i:Int)∧(i:Int) < (n:Int):=⟨by omega,by omega⟩
    have hil:i < ats.length:=by rw [HNA.out];exact hlt.1
    obtain ⟨bW,oW,cs,hxe,hcl3,hTT,hcc⟩:=HAT.out.at (by decide) i hil
    obtain ⟨ae,ke,y,z,rfl,hE⟩:=cells_NA hTT
    subst hxe
    have CN4:=Lib.hid (Bo.of hcc)
    have CN:=Lib.hid (CN4.out.ext X06.out)
    have HOF:Hid (∀ w',Ext w6 w'→Calls Tryz.prog 19 #[.agg #[.slice ae ats[i].1.1.length ke,.bool ats[i].1.2.1,y,z,.int .i64 ats[i].2]] w' (Gives w' fun v' w'=>OwnA w' v' (atA ats[i]))):=fun w' x=>of9_any (hTT.ext (Ext.trans X06.out x)) (HBB.out _ (List.getElem_mem hil)).1 (HBB.out _ (List.getElem_mem hil)).2
    have HSM:Hid (Smx (atA ats[i]).1.1 (atA ats[i]).1.2):=tL_sm hE
    generalize ats[i].1.1.length=le at*
    generalize ats[i].1.2.1=se at*
    generalize ats[i].2=oe at*
    generalize atA ats[i]=q at*
    clear hcc hTT hcl3 hE hil
    obtain ⟨L2,hL2⟩:∃ L2,L ++ [q]=L2:=⟨_,rfl⟩
    obtain ⟨m2,hm2⟩:∃ m2,L.length+1=m2:=⟨_,rfl⟩
    have HL2L:Hid (L2.length=m2):=by rw [← hL2,← hm2,List.length_append];exact Lib.hid rfl
    have HL2:=Lib.hid hL2
    have HM2:Hid (m2≤i+1∧L.length≤40):=by have:=hLn.out;exact ⟨by omega,by omega⟩
    have HS2:Hid (∀ a∈L2,Smx a.1.1 a.1.2):=fun a ha=>by
     rw [← hL2] at ha
     exact (List.mem_append.1 ha).elim (hLs.out a) fun h=>by rw [List.mem_singleton.1 h];exact HSM.out
    clear hL2 hm2
    go_upto_region 5 with (fail)
    clear k0 k1 k2 k3 hdd
    have neS:=hO.out.ne_rt hRt.out (by decide)
    have b7:=drew_ext w6
    have XE:=b7
    refine wp_region_noPanic ?_
    refine wp_region_cut_drew (st:=11) (S:=fun w'=>(w'.cell? ⟨X,0,none⟩=some (.int .i64 pR)∧w'.cell? ⟨X,1,none⟩=some (.int .i64 pB)∧w'.cell? ⟨X,2,none⟩=some (.slice aL L.length kL)∧w'.cell? ⟨X,3,none⟩=some (.slice none 0 0))∧(w'.cell? ⟨w.heap.size,0,none⟩=some (.int .i64 pR)∧w'.cell? ⟨w.heap.size,1,none⟩=some (.int .i64 pB)∧w'.cell? ⟨w.heap.size,2,none⟩=some (.slice (some ⟨bW,oW,none⟩) n ca)∧w'.cell? ⟨w.heap.size,3,none⟩=some (.slice aq nc cq))∧(w'.cell? ⟨bW,oW+i*5,none⟩=some (.slice ae le ke)∧w'.cell? ⟨bW,oW+i*5+1,none⟩=some (.bool se)∧w'.cell? ⟨bW,oW+i*5+2,none⟩=some (y)∧w'.cell? ⟨bW,oW+i*5+3,none⟩=some (z)∧w'.cell? ⟨bW,oW+i*5+4,none⟩=some (.int .i64 oe))) (by kernel_rfl) (⟨(hC.out.ext XE).c4,(C16.out.ext XE).c4,(CN.out.ext XE).c5⟩) (fun hHeld=>?_)
    refine tkT 0 [11] hHeld ?_
    simp only [jP,jA,jB,jC,jD,jE,jF]
    refine tkT 1 [11] hHeld ?_
    simp only [jP,jA,jB,jC,jD,jE,jF]
    refine tkT 2 [11] hHeld ?_
    simp only [jP,jA,jB,jC,jD,jE,jF]
    refine tkT 3 [11] hHeld ?_
    simp only [jP,jA,jB,jC,jD,jE,jF]
    refine tkT 4 [11] hHeld ?_
    simp only [jP,jA,jB,jC,jD,jE,jF]
    refine tkT 5 [11] hHeld ?_
    simp only [jP,jA,jB,jC,jD,jE,jF]
    refine tkT 6 [11] hHeld ?_
    simp only [jP,jA,jB,jC,jD,jE,jF]
    refine wpAnyT_ready (rs:=[7]) (by kernel_rfl) (by simp) ?_
    refine AllReadyT.cons (o:=_) rfl (by rfl) (fun K hK=>?_) AllReadyT.nil
    go_simp
    go_at_call 19;refine (HOF.out _ XE).mono ?_;rintro e w8 ⟨v8,rfl,b8,o8⟩;have O8:=Lib.hid o8;clear o8;(first | have XE:=Ext.trans XE b8 | have XE:=Ext.trans (Ext.trans XE (Ext.alloc _ _)) b8);obtain ⟨e0,e1,e2,e3,e4,e5,e6,e7,e8,rfl,-⟩:=OwnAt.op O8.out
    go_wp2_with fail
    refine hK.out _ _ (⟨(hC.out.ext XE).c4,(C16.out.ext XE).c4,(CN.out.ext XE).c5⟩) (fun hHeld=>?_)
    clear hK K
    try simp only [jP,jA,jB,jC,jD,jE,jF]
    refine wpAnyT_ready (rs:=[8]) (by kernel_rfl) (by simp) ?_
    refine AllReadyT.cons (o:=_) rfl (by rfl) (fun K hK=>?_) AllReadyT.nil
    refine if_wantedL rfl ?_
    refine build1K etAt (by rfl) (T:=OwnA) OwnAt.ext (by rfl) [.slice e0 q.1.1.length e1,.bool e2,.slice e3 e4 e5,.slice e6 e7 e8,.int .i64 q.2] (fill_a1 ..) rfl (by decide) (y:=q) O8.out ?_
    intro g20 w20 x20 _ l20
    have XE:=Ext.trans XE x20
    have L20:=Lib.hid l20.rd
    clear l20
    refine hK.out _ _ ⟨(hC.out.ext XE).c4,(C16.out.ext XE).c4,(CN.out.ext XE).c5⟩ (fun hHeld=>?_)
    clear hK K
    try simp only [jP,jA,jB,jC,jD,jE,jF]
    refine wpAnyT_ready (rs:=[9]) (by kernel_rfl) (by simp) ?_
    refine AllReadyT.cons (o:=_) rfl (by rfl) (fun K hK=>?_) AllReadyT.nil
    refine if_wantedL rfl ?_
    refine append_rowG etAt (kdAt (by decide) (by decide)) _ _ (by rfl) w1.heap.size (by rfl) (hO.out.ext OwnAt.ext XE) (by rfl) L20.out (by have:=HM2.out;omega) (by have:=HM2.out;unfold maxLen;omega) (Nat.le_trans (Below.size hX.out) (Below.size XE)) ?_
    intro v9 w9 o9 b9 g9 _
    have RO9:=Lib.hid ((hRt.out.ext XE).grow g9 neS)
    have DO9:=Lib.hid ((hC.out.ext XE).grow g9 neS)
    have XW:=Lib.hid (Below.trans hX.out (Below.trans (Below.mono XE (Below.size hX.out)) b9))
    have O9:Hid (OwnRow 5 OwnA 63 w1.heap.size w9 v9 L2):=(by rw [← HL2.out];exact o9)
    obtain ⟨a11,k11,he9,-,-⟩:=O9.out.rd.shape
    rw [HL2L.out] at he9
    subst he9
    refine hK.out _ _ ⟨DO9.out.c4,(C1.out.ext XW.out).c4,(CN4.out.ext (Ext.trans B1.out XW.out)).c5⟩ (fun hHeld=>?_)
    clear hK K o9
    try simp only [jP,jA,jB,jC,jD,jE,jF]
    obtain ⟨_,_,_,_,n0,n1,n2,n3,i0,i1,i2,i3⟩:=RO9.out.c4
    refine tkT 10 [11] hHeld ?_
    simp only [jP,jA,jB,jC,jD,jE,jF]
    refine wpAnyT_ready (rs:=[11]) (by kernel_rfl) (by simp) ?_
    refine AllReadyT.cut (o:=_) rfl (fun K hK=>?_)
    go_simp
    refine hK.out _ _ ?_
    clear hK K
    try simp only [jP,jA,jB,jC,jD,jE,jF]
    refine wpAny_done (by kernel_rfl) ?_ _
    refine NoPanic.normal ?_
    go_wp2_with fail
    go_roundw
    case rel=>exact ⟨i+1,L2,a11,k11,by go_num,by omega,by omega,putL_below HXX.out [_] 2 XW.out,by rw [HL2L.out];exact Lib.hid (DO9.out.setAt RO9.out 2 (by decide) _),RO9.out.setAt 2 _,by rw [HL2L.out];exact Lib.hid (O9.out.putT RO9.out (by decide) 2 [_] (fun _ _ h=>OwnAt.putT h RO9.out (by decide) (by decide) 2 [_])),by rw [HL2L.out];exact Lib.hid HM2.out.1,HS2⟩
    case measure=>simp [intOf] <;> omega
   ·have hdd:decide (i < n∧i < 40)=false:=decide_eq_false hlt
    rw [hdd]
    have HEND:Hid (L.length≤40):=by have:=hLn.out;exact Lib.hid (by omega)
    obtain ⟨m,hm⟩:∃ m,L.length=m:=⟨_,rfl⟩
    have HLM:=Lib.hid hm
    rw [hm] at hC hO HEND
    clear hm hLn
    go_wp2_with fail
    clear k0 k1 k2 k3 hdd hlt
    go_loopw [5] (fun t wr=>∃ (j:Nat) (C:List (List Int)) (aC:Option Addr) (kC:Nat),t=.int .i64 j∧j≤nc∧j≤60∧Hid (Ext w1 wr)∧Hid (Bx wr X [.int .i64 pR,.int .i64 pB,.slice aL m kL,.slice aC C.length kC])∧Hid (Rt wr X 4 34)∧Hid (OwnRow 5 OwnA 63 w1.heap.size wr (.slice aL m kL) L)∧Hid (OwnRow 1 RwZ 44 w1.heap.size wr (.slice aC C.length kC) C)∧Hid (C.length≤j)∧Hid (∀ c∈C,c.length≤70∧∀ l∈c,In64 l)) (fun t _=>60 - (intOf t).toNat)
    case atStart=>exact ⟨0,[],none,0,rfl,Nat.zero_le _,Nat.zero_le _,hX,hC,hRt,hO,Lib.hid (OwnRow.nil _ _ _),Lib.hid (Nat.le_refl _),Lib.hid fun c h=>by cases h⟩
    case round=>
     clear hX hC hRt hO X06 C16
     obtain ⟨j,C,aC,kC,rfl,hj,hj6,hX,hC,hRt,hO,hCO,hCn,hCg⟩:=hrel
     obtain ⟨w7,hw7⟩:∃ w0:World,w0=wr:=⟨_,rfl⟩
     subst hw7
     have X07:=Lib.hid (Ext.trans B1.out hX.out)
     obtain ⟨k0,k1,k2,k3⟩:=(C1.out.ext hX.out).c4
     go_upto_region 7 with (fail)
     go_cut [42] (fun s42 wx=>s42=.bool (decide (j < nc∧j < 60))∧w7=wx)
     case first=>
      by_cases h1:j < nc
      ·have hd:decide ((j:Int) < (nc:Int))=true:=decide_eq_true (by omega)
       by_cases h2:j < 60
       ·have hd2:decide ((j:Int) < 60)=true:=decide_eq_true (by omega)
        go_wp2_with fail
        go_meet
        exact ⟨by simp [h1,h2],rfl⟩
       ·have hd2:decide ((j:Int) < 60)=false:=decide_eq_false (by omega)
        go_wp2_with fail
        go_meet
        exact ⟨by simp [h2],rfl⟩
      ·have hd:decide ((j:Int) < (nc:Int))=false:=decide_eq_false (by omega)
       go_wp2_with fail
       go_meet
       exact ⟨by simp [h1],rfl⟩
     case rest=>
      obtain ⟨rfl,rfl⟩:=hcut
      by_cases hlt:j < nc∧j < 60
      ·rw [decide_eq_true hlt]
       have HJ1:IntKind.i64.wrap ((j:Int)+1)=((j+1:Nat):Int):=by rw [IntKind.wrap_i64];omega
       have HJ2:(0:Int)≤(j:Int)∧(j:Int) < (nc:Int):=⟨by omega,by omega⟩
       have hjl:j < cls.length:=by rw [HNC.out];exact hlt.1
       obtain ⟨bC,oC,xC,mC,he,hce,hrr⟩:=RdRow.rowC (HCL.out.ext (fun h x=>RowT.ext h IntT.ext x) X07.out) j hjl
       subst he
       have HIJ:=Lib.hid (HZ.out _ (List.getElem_mem hjl))
       obtain ⟨c,hc⟩:∃ c,cls[j]=c:=⟨_,rfl⟩
       rw [hc] at hce hrr HIJ
       obtain ⟨lc,hlc⟩:∃ m,c.length=m:=⟨_,rfl⟩
       have HLC:=Lib.hid hlc
       rw [hlc] at hce hrr
       have HRR:=Lib.hid hrr
       have HLM2:Hid (lc≤mC):=by
        obtain ⟨_,_,he,h1,-⟩:=hrr.shape
        simp only [Value.slice.injEq] at he
        obtain ⟨-,h2,rfl⟩:=he
        exact Lib.hid (by omega)
       have HNONE:Hid (xC=none→mC=0):=by
        obtain ⟨E,⟨-,a',c',he,-,-,h3,-⟩,-⟩:=hrr
        simp only [Value.slice.injEq] at he
        obtain ⟨rfl,-,rfl⟩:=he
        exact Lib.hid h3
       clear hc hrr hjl hlc
       go_upto_if 52 with fail
       go_cut [6] (fun s6 wx=>∃ (d:List Int) (xd:Option Addr) (kd:Nat),s6=.slice xd d.length kd∧w7=wx∧Hid (RdRow 1 IntT w7 (.slice xd d.length kd) d)∧Hid (d.length≤70)∧Hid (∀ z∈d,In64 z))
       case first=>
        by_cases h70:70 < lc
        ·have hd3:decide ((lc:Int) > 70)=true:=decide_eq_true (by omega)
         have hd3':decide ((70:Int) < (lc:Int))=true:=decide_eq_true (by omega)
         have hm70:70≤mC:=by have:=HLM2.out;omega
         have hm70':(70:Int)≤(mC:Int):=by omega
         have HTK:=Lib.hid (HRR.out.take (m:=70) (by rw [HLC.out];omega))
         have HTL:Hid ((c.take 70).length=70):=by show _=_;rw [List.length_take,HLC.out];omega
         cases xC with
         | none=>have:=HNONE.out rfl;omega
         | some ad=>
          go_wp2_with fail
          go_meet
          exact ⟨c.take 70,some ad,mC,by rw [HTL.out],rfl,by rw [HTL.out];exact HTK,Nat.le_of_eq HTL.out,fun z hz=>HIJ.out z (List.mem_of_mem_take hz)⟩
        ·have hd3:decide ((lc:Int) > 70)=false:=decide_eq_false (by omega)
         have hd3':decide ((70:Int) < (lc:Int))=false:=decide_eq_false (by omega)
         go_wp2_with fail
         go_meet
         exact ⟨c,xC,mC,by rw [HLC.out],rfl,by rw [HLC.out];exact HRR,by rw [HLC.out];exact Lib.hid (by omega),HIJ⟩
       case rest=>
        obtain ⟨d,xd,kd,rfl,rfl,HDR,HDL,HDI⟩:=hcut
        clear HRR HLC HIJ HLM2 HNONE hce k0 k1 k2 k3
        obtain ⟨C2,hC2⟩:∃ C2,C ++ [d]=C2:=⟨_,rfl⟩
        obtain ⟨m2,hm2⟩:∃ m2,C.length+1=m2:=⟨_,rfl⟩
        have HC2L:Hid (C2.length=m2):=by rw [← hC2,← hm2,List.length_append];exact Lib.hid rfl
        have HC2:=Lib.hid hC2
        have HCL4:Hid (C.length≤60∧m2≤j+1):=by have:=hCn.out;exact ⟨by omega,by omega⟩
        have HG2:Hid (∀ c∈C2,c.length≤70∧∀ l∈c,In64 l):=fun c hc=>by
         rw [← hC2] at hc
         exact (List.mem_append.1 hc).elim (hCg.out c) fun h=>by rw [List.mem_singleton.1 h];exact ⟨HDL.out,HDI.out⟩
        clear hC2 hm2
        have neS:=hCO.out.ne_rt hRt.out (by decide)
        go_upto_region 12 with fail
        have b8:=drew_ext w7
        have XE:=b8
        refine wp_region_noPanic ?_
        refine wp_region_cut_drew (st:=8) (S:=fun w'=>w'.cell? ⟨X,0,none⟩=some (.int .i64 pR)∧w'.cell? ⟨X,1,none⟩=some (.int .i64 pB)∧w'.cell? ⟨X,2,none⟩=some (.slice aL m kL)∧w'.cell? ⟨X,3,none⟩=some (.slice aC C.length kC)) (by kernel_rfl) ((hC.out.ext XE).c4) (fun hHeld=>?_)
        refine tkT 0 [8] hHeld ?_
        simp only [jP,jA,jB,jC,jD,jE,jF]
        refine tkT 1 [8] hHeld ?_
        simp only [jP,jA,jB,jC,jD,jE,jF]
        refine tkT 3 [8] hHeld ?_
        simp only [jP,jA,jB,jC,jD,jE,jF]
        refine wpAnyT_ready (rs:=[2]) (by kernel_rfl) (by simp) ?_
        refine AllReadyT.cons (o:=_) rfl (by rfl) (fun K hK=>?_) AllReadyT.nil
        go_simp
        refine hK.out _ _ ((hC.out.ext (Ext.trans XE (Ext.alloc _ _))).c4) (fun hHeld=>?_)
        clear hK K
        try simp only [jP,jA,jB,jC,jD,jE,jF]
        refine wpAnyT_ready (rs:=[4]) (by kernel_rfl) (by simp) ?_
        refine AllReadyT.cons (o:=_) rfl (by rfl) (fun K hK=>?_) AllReadyT.nil
        refine if_wantedL rfl ?_
        refine append_rowA (l:=([]:List Int)) etKi (kdI _) _ _ (by rfl) w7.heap.size (by rfl) ((OwnRow.nilLit (w:=w7) 3 (Nat.le_refl _)).ext IntT.ext (drew_ext _)) (by rfl) (HDR.out.ext IntT.ext (Ext.trans (Ext.alloc _ _) (drew_ext _))) (by have:=HDL.out;show (0+d.length)*8≤140737488355328;omega) (by have:=HDL.out;unfold maxLen;show 0+d.length≤_;omega) (Below.size (Ext.trans (Ext.alloc _ _) (drew_ext _))) ?_
        intro v18 w18 o18 b18 _
        have XE:Ext w7 w18:=Below.trans (Ext.trans (Ext.alloc _ _) (drew_ext _)) b18
        rw [List.nil_append] at o18
        obtain ⟨ar,kr,rfl,hro⟩:=RowY.of (TyRow.of o18)
        clear o18 b18
        refine hK.out _ _ ((hC.out.ext XE).c4) (fun hHeld=>?_)
        clear hK K
        try simp only [jP,jA,jB,jC,jD,jE,jF]
        refine wpAnyT_ready (rs:=[5]) (by kernel_rfl) (by simp) ?_
        refine AllReadyT.cons (o:=_) rfl (by rfl) (fun K hK=>?_) AllReadyT.nil
        refine if_wantedL rfl ?_
        refine build1K etCs (by rfl) (T:=RwZ) rwz_ext (by rfl) [.slice ar d.length kr] (fill_s1 ..) rfl (by decide) (y:=d) hro ?_
        intro g20 w20 x20 _ l20
        have XE:=Ext.trans XE x20
        have L20:=Lib.hid l20.rd
        clear l20
        refine hK.out _ _ ((hC.out.ext XE).c4) (fun hHeld=>?_)
        clear hK K
        try simp only [jP,jA,jB,jC,jD,jE,jF]
        refine wpAnyT_ready (rs:=[6]) (by kernel_rfl) (by simp) ?_
        refine AllReadyT.cons (o:=_) rfl (by rfl) (fun K hK=>?_) AllReadyT.nil
        refine if_wantedL rfl ?_
        refine append_rowG etCs (kdY (by decide) (kdI _)) _ _ (by rfl) w1.heap.size (by rfl) (hCO.out.ext rwz_ext XE) (by rfl) L20.out (by have:=HCL4.out;omega) (by have:=HCL4.out;unfold maxLen;omega) (Nat.le_trans (Below.size hX.out) (Below.size XE)) ?_
        intro v9 w9 o9 b9 g9 _
        have RO9:=Lib.hid ((hRt.out.ext XE).grow g9 neS)
        have DO9:=Lib.hid ((hC.out.ext XE).grow g9 neS)
        obtain ⟨nn,xs,hown⟩:=(hCO.out.ext rwz_ext XE).own
        have OA9:Hid (OwnRow 5 OwnA 63 w1.heap.size w9 (.slice aL m kL) L):=(OwnRow.grown (hO.out.ext OwnAt.ext XE) (fun _ _ h=>(kdAt (by decide) (by decide)).grown h hown g9) hown (by decide) g9)
        have XW:=Lib.hid (Below.trans hX.out (Below.trans (Below.mono XE (Below.size hX.out)) b9))
        have O9:Hid (OwnRow 1 RwZ 44 w1.heap.size w9 v9 C2):=(by rw [← HC2.out];exact o9)
        obtain ⟨a11,k11,he9,-,-⟩:=O9.out.rd.shape
        rw [HC2L.out] at he9
        subst he9
        refine hK.out _ _ (DO9.out.c4) (fun hHeld=>?_)
        clear hK K o9 hown
        try simp only [jP,jA,jB,jC,jD,jE,jF]
        refine tkT 7 [8] hHeld ?_
        simp only [jP,jA,jB,jC,jD,jE,jF]
        obtain ⟨_,_,_,_,n0,n1,n2,n3,i0,i1,i2,i3⟩:=RO9.out.c4
        refine wpAnyT_ready (rs:=[8]) (by kernel_rfl) (by simp) ?_
        refine AllReadyT.cut (o:=_) rfl (fun K hK=>?_)
        go_simp
        refine hK.out _ _ ?_
        clear hK K
        try simp only [jP,jA,jB,jC,jD,jE,jF]
        refine wpAny_done (by kernel_rfl) ?_ _
        refine NoPanic.normal ?_
        go_wp2_with fail
        go_roundw
        case rel=>exact ⟨j+1,C2,a11,k11,by go_num,by omega,by omega,putL_below HXX.out [_] 3 XW.out,by rw [HC2L.out];exact Lib.hid (DO9.out.setAt RO9.out 3 (by decide) _),RO9.out.setAt 3 _,OA9.out.putT RO9.out (by decide) 3 [_] (fun _ _ h=>OwnAt.putT h RO9.out (by decide) (by decide) 3 [_]),by rw [HC2L.out];exact Lib.hid (O9.out.putT RO9.out (by decide) 3 [_] (fun _ _ h=>RowY.putT h RO9.out (by decide) 3 [_] fun _ _ h=>h)),by rw [HC2L.out];exact Lib.hid HCL4.out.2,HG2⟩
        case measure=>simp [intOf] <;> omega
      ·rw [decide_eq_false hlt]
       have HCE:Hid (C.length≤60):=by have:=hCn.out;exact Lib.hid (by omega)
       have R25:=Lib.hid (R2.out.ext hX.out)
       obtain ⟨x0,x1,x2,x3⟩:=hC.out.c4
       obtain ⟨_,_,_,_,y0,y1,y2,y3,f0,f1,f2,f3⟩:=R25.out.c4
       go_wp2_with fail
       refine bodyPost_ret (v:=.agg #[.int .i64 pR,.int .i64 pB,.slice aL m kL,.slice aC C.length kC]) (by simp [results,Tryz.results6,go_sem,y0,y1,y2,y3]) rfl ?_
       refine hR.out _ _ (Gives.mk (putL_below (by omega) [_,_,_,_] 0 X07.out) ⟨((pR,pB),L,C),⟨aL,kL,aC,kC,by rw [HLM.out],?_,?_⟩,by dsimp only;rw [HLM.out];exact HEND.out,HCE.out,hLs.out,hCg.out⟩)
       ·dsimp only
        rw [HLM.out]
        exact (hO.out.mono (Nat.zero_le _)).putT R25.out (by decide) 0 [_,_,_,_] (fun _ _ h=>OwnAt.putT h R25.out (by decide) (by decide) 0 [_,_,_,_])
       ·exact (hCO.out.mono (Nat.zero_le _)).putT R25.out (by decide) 0 [_,_,_,_] (fun _ _ h=>RowY.putT h R25.out (by decide) 0 [_,_,_,_] fun _ _ h=>h)
open Go.RowKit Go.Att

set_option linter.unusedSimpArgs false in
set_option maxHeartbeats 4000000 in
set_option maxRecDepth 100000 in
theorem told9_z {w:World} {v:Value} {p:AT} (hv:OwnA w v p) (hs:Sm3 p):
  Calls Tryz.prog 43 #[v] w (Gives w fun v' w'=>OwnB9 w' v' p):=by
 refine via fun R hR=>?_
 obtain ⟨a,k,s,b,m,d,b',m',d',rfl,HX⟩:=hv.op
 have HTO:Hid (∀ w',Ext w w'→Calls Tryz.prog 75 #[.agg #[.slice a p.1.1.length k,.bool s,.slice b m d,.slice b' m' d']] w' (Gives w' fun v' w'=>OwnY 0 w' v' p.1.1 p.1.2)):=fun w' x=>(told8_any (HX.out.rd.ext x) (fun t ht=>(hs.2.1 t ht).le (by decide)) (hs.2.2.le (by decide)) (by have:=hs.1;omega)).mono fun _ _ ⟨v,e,b,o⟩=>⟨v,e,b,o.mono (Nat.zero_le _)⟩
 clear hv hs HX
 obtain ⟨⟨la,ca⟩,op⟩:=p
 dsimp only at HTO ⊢
 obtain ⟨n,hn⟩:∃ n,la.length=n:=⟨_,rfl⟩
 rw [hn] at HTO ⊢
 clear hn
 obtain ⟨w1,hw1,b1,c1,c2,-,-,-⟩:=bx2 w [.slice a n k,.bool s,.slice b m d,.slice b' m' d',.int .i64 op] [.slice none 0 0,.bool false,.slice none 0 0,.slice none 0 0,.int .i64 0] 63 112
 have HW:=Lib.hid hw1
 have C1:=Lib.hid c1
 have R2:Hid (Rt w1 (w.heap.size+1) 5 112):=by
  show Rt _ _ _ _
  rw [hw1]
  have:=Rt.new (w.alloc (.cells #[.slice a n k,.bool s,.slice b m d,.slice b' m' d',.int .i64 op] 63)) [.slice none 0 0,.bool false,.slice none 0 0,.slice none 0 0,.int .i64 0] 112
  simpa using this
 clear c1 c2 hw1
 go_enter Tryz.func43,Tryz.ntmps43
 go_upto_region 1 with (fail)
 rw [← HW.out]
 clear HW
 have b2:=drew_ext w1
 have XE:=b2
 refine wp_region_noPanic ?_
 refine wp_region_last_drew (st:=6) (S:=fun w'=>w'.cell? ⟨w.heap.size,0,none⟩=some (.slice a n k)∧w'.cell? ⟨w.heap.size,1,none⟩=some (.bool s)∧w'.cell? ⟨w.heap.size,2,none⟩=some (.slice b m d)∧w'.cell? ⟨w.heap.size,3,none⟩=some (.slice b' m' d')∧w'.cell? ⟨w.heap.size,4,none⟩=some (.int .i64 op)) (by kernel_rfl) ((C1.out.ext XE).c5) (fun hHeld=>?_)
 refine tkL 0 hHeld ?_
 simp only [jP,jA,jB,jC,jD,jE,jF]
 refine tkL 1 hHeld ?_
 simp only [jP,jA,jB,jC,jD,jE,jF]
 refine tkL 3 hHeld ?_
 simp only [jP,jA,jB,jC,jD,jE,jF]
 refine tkL 4 hHeld ?_
 simp only [jP,jA,jB,jC,jD,jE,jF]
 refine rdL 2 (by kernel_rfl) rfl (fun K hK=>?_)
 go_simp
 go_at_call 75;refine (HTO.out _ (Ext.trans b1 XE)).mono ?_;rintro e w3 ⟨v3,rfl,b3,o3⟩;have O3:=Lib.hid o3;clear o3;(first | have XE:=Ext.trans XE b3 | have XE:=Ext.trans (Ext.trans XE (Ext.alloc _ _)) b3);obtain ⟨a3,k3,s3,d3,m3,e3,d4,m4,e4,rfl,-,-,O4⟩:=OwnEy.op O3.out
 go_wp2_with fail
 refine hK.out _ _ ((C1.out.ext XE).c5) (fun hHeld=>?_)
 clear hK K
 try simp only [jP,jA,jB,jC,jD,jE,jF]
 refine tkL 5 hHeld ?_
 simp only [jP,jA,jB,jC,jD,jE,jF]
 obtain ⟨_,_,_,_,_,j0,j1,j2,j3,j4,i0,i1,i2,i3,i4⟩:=(R2.out.ext XE).c5
 refine wpAnyL_ready (rs:=[6]) (by kernel_rfl) (by simp) ?_
 refine AllReadyL.last (o:=_) rfl (fun K hK=>?_)
 go_simp
 refine hK.out _ _ ?_
 clear hK K
 try simp only [jP,jA,jB,jC,jD,jE,jF]
 refine wpAnyL_done (by kernel_rfl) ?_ _
 refine NoPanic.normal ?_
 go_wp2_with fail
 refine bodyPost_ret (v:=.agg #[.slice a3 la.length k3,.bool s3,.slice d3 m3 e3,.slice d4 m4 e4,.int .i64 op]) (by simp [results,Tryz.results43,go_sem,j0,j1,j2,j3,j4]) rfl ?_
 exact hR.out _ _ (Gives.mk (put5_below (Ext.trans b1 XE) (by omega) _ _ _ _ _) ⟨_,_,_,_,rfl,O4.out.putT (R2.out.ext XE) (by decide) (by decide) 0 [_,_,_,_,_]⟩)
set_option linter.unusedSimpArgs false in
set_option maxHeartbeats 4000000 in
set_option maxRecDepth 100000 in
theorem list9_z {w:World} {v:Value} {l:List AT} (hv:RdRow 5 OwnA w v l) (hs:∀ a∈l,Sm3 a) (hl:l.length≤1000):
  Calls Tryz.prog 27 #[v] w (Gives w fun v' w'=>OwnRow 5 OwnB9 112 w.heap.size w' v' l):=by
 refine via fun R hR=>?_
 have HS:=Lib.hid hs
 obtain ⟨a,c,rfl,hlc,hcm⟩:=hv.shape
 have HV:=Lib.hid hv
 unfold maxLen at hcm
 clear hv hs
 go_enter Tryz.func27,Tryz.ntmps27
 go_wp2_with fail
 go_loopw [3,9] (fun o i wr=>∃ k:Nat,i=.int .i64 k∧k≤l.length∧Ext w wr∧Hid (OwnRow 5 OwnB9 112 w.heap.size wr o (l.take k))) (fun _ i _=>l.length - (intOf i).toNat)
 case atStart=>exact ⟨0,rfl,Nat.zero_le _,Ext.alloc _ _,by rw [List.take_zero];exact OwnRow.nilLit _ (Nat.le_refl _)⟩
 case round=>
  obtain ⟨k,rfl,hk,hx,hO⟩:=hrel
  by_cases hlt:k < l.length
  ·have hd:decide ((k:Int) < (l.length:Int))=true:=decide_eq_true (by omega)
   obtain ⟨bA,oA,xa,xk,xs,xb,xm,xd,xb',xm',xd',hae,hbo,hax⟩:=HV.out.atm k hlt
   subst hae
   obtain ⟨u0,u1,u2,u3,u4⟩:=(hbo.ext hx).c5
   have hJ1:IntKind.i64.wrap (k:Int)=(k:Int):=by rw [IntKind.wrap_i64];omega
   have hJ2:(0:Int)≤(k:Int)∧(k:Int) < (l.length:Int):=⟨by omega,by omega⟩
   have HTK:Hid (l.take (k+1)=l.take k ++ [l[k]]):=(List.take_append_getElem hlt).symm
   have HKL:Hid ((l.take k).length≤1000):=by show _≤_;rw [List.length_take];omega
   obtain ⟨w4,hw4,b4,c4,-,-⟩:=bx1 wr [.slice xa l[k].1.1.length xk,.bool xs,.slice xb xm xd,.slice xb' xm' xd',.int .i64 l[k].2] 63
   have HW:=Lib.hid hw4
   have C4:=Lib.hid c4
   have HTO:Hid (Calls Tryz.prog 43 #[.agg #[.slice xa l[k].1.1.length xk,.bool xs,.slice xb xm xd,.slice xb' xm' xd',.int .i64 l[k].2]] w4 (Gives w4 fun v' w'=>OwnB9 w' v' l[k])):=told9_z ⟨_,_,_,_,rfl,hax.ext (Ext.trans hx b4)⟩ (HS.out _ (List.getElem_mem hlt))
   clear hw4 c4 hbo hax
   generalize l[k].1.1.length=n1 at*
   generalize l[k].2=o1 at*
   generalize l[k]=q at*
   go_upto_region 5 with (fail)
   rw [← HW.out]
   clear HW u0 u1 u2 u3 u4
   obtain ⟨k0,k1,k2,k3,k4⟩:=C4.out.c5
   go_wp2_with fail
   refine HTO.out.mono ?_
   rintro e w5 ⟨_,rfl,b5,h1⟩
   clear k0 k1 k2 k3 k4
   obtain ⟨a2,kk2,s2,b2,m2,d2,b2',m2',d2',rfl,O1⟩:=h1.op
   have HQ1:=Lib.hid h1
   have b05:=hx.trans (b4.trans b5)
   have hO1:=Lib.hid (hO.out.ext OwnBt.ext (b4.trans b5))
   clear h1 hO
   go_wp2_with (at_builtin;refine append_rowL (y:=q) etBt (kdBt (by decide) (by decide)) (by rfl) _ _ (by rfl) w.heap.size (by rfl) _ (by rfl) hO1.out rfl HQ1.out (Below.size b05) (by have:=HKL.out;omega) (by unfold maxLen;have:=HKL.out;omega) ?_;intro v9 w9 o9 b9 g9)
   go_roundw
   case rel=>exact ⟨k+1,by go_num,by omega,Below.trans b05 b9,by rw [HTK.out];exact o9⟩
   case measure=>simp [intOf] <;> omega
  ·obtain rfl:k=l.length:=by omega
   have hd:decide ((l.length:Int) < (l.length:Int))=false:=decide_eq_false (by omega)
   rw [List.take_length] at hO
   obtain ⟨ao,ko,he,-,-⟩:=hO.out.rd.shape
   subst he
   go_wp2_with fail
   exact hR.out _ _ (Gives.mk hx hO.out)
end Go.Proofs.YtdooldpgnjmpfaaGreatDoor
