/- smt.Tidy -/
import Derived.Test.YtdooldpgnjmpfaaGreatDoorPTidied
namespace Go.Proofs.YtdooldpgnjmpfaaGreatDoor
open Go.RowKit Go.Att

theorem ownpq_nil (w:World):OwnPq w (.agg #[.int .i64 0,.int .i64 0,.slice none 0 0,.slice none 0 0]) ((0,0),[],[]):=
 ⟨none,0,none,0,rfl,OwnRow.nil 63 0 w,OwnRow.nil 44 0 w⟩
set_option maxRecDepth 100000 in
set_option linter.unusedSimpArgs false in
set_option maxHeartbeats 60000000 in
theorem tidy_any {w:World} {vp:Value} {p:Pq AT} (hp:RdPq OwnA (RowT 1 IntT) w vp p) (hna:p.2.1.length≤40) (hnc:p.2.2.length≤60) (hsm:∀ a∈p.2.1,Smx a.1.1 a.1.2)
  (hcl : ∀ c ∈ p.2.2, c.length ≤ 70 ∧ ∀ l ∈ c, In64 l) (ht : Lib.TabIs Tryz.prog w "internal/strconv.uint64pow10" .u64 Lib.pow10Tab) :
  Calls Tryz.prog 5 #[vp] w (Gives w fun v' w'=>∃ u e,v'=.tuple #[u,.int .i64 e]∧∃ x:Pq AT,OwnPq w' u x∧(e=0→GoodP kyA (pbQ x))):=by
 refine via fun R hR=>?_
 have HP:=Lib.hid hp
 have HGR:Hid (∀ w',Ext w w'→Calls Tryz.prog 14 #[vp] w' (Gives w' fun v' _=>∃ b:Bool,v'=.bool b∧(b=false↔p.1.1≤400∧p.1.2≤1000∧∀ c∈p.2.2,c.length≤64))):=fun w' x=>
  greatp_any (hp.ext OwnAt.ext (fun h x=>RowT.ext h IntT.ext x) x) (by omega) (by omega)
 have HIN:Hid (∀ w' v a,Ext w w'→a∈p.2.1→OwnA w' v a→Calls Tryz.prog 16 #[vp,v] w' (Gives w' fun v' _=>∃ b:Bool,v'=.bool b∧(b=true↔∀ t∈a.1.1,0≤t.1∧t.1 < p.1.1))):=fun w' v a x ha h=>
  insidep_any (hp.ext OwnAt.ext (fun h x=>RowT.ext h IntT.ext x) x) h (by have:=(hsm a ha).1;omega)
 have HKN:Hid (0≤p.1.2→p.1.2≤1000→∀ w' l,Ext w w'→In64 l→Calls Tryz.prog 17 #[vp,.int .i64 l] w' (Gives w' fun v' _=>∃ b:Bool,v'=.bool b∧(b=true↔knownL (p.1.2+p.2.1.length) l))):=fun h0 h1 w' l x hl=>
  known_any (hp.ext OwnAt.ext (fun h x=>RowT.ext h IntT.ext x) x) hl h0 h1 (by omega)
 have HTD:Hid (0≤p.1.1→p.1.1≤400→0≤p.1.2→p.1.2≤1000→(∀ a∈p.2.1,1≤a.2∧a.2≤3)→(∀ a∈p.2.1,∀ t∈a.1.1,0≤t.1∧t.1 < p.1.1)→(∀ c∈p.2.2,c.length≤64∧∀ l∈c,knownL (p.1.2+p.2.1.length) l)→∀ w',Ext w w'→Calls Tryz.prog 18 #[vp] w' (Gives w' fun v' w'=>∃ x:Pq AT,OwnPq w' v' x∧GoodP kyA (pbQ x))):=fun h0 h1 h2 h3 h4 h5 h6 w' x=>
  tidied_any (hp.ext OwnAt.ext (fun h x=>RowT.ext h IntT.ext x) x) h0 h1 h2 h3 hna hnc h4 hsm h5 h6 (tab_ext ht x)
 have HCI:Hid (∀ c∈p.2.2,∀ l∈c,In64 l):=fun c hc=>(hcl c hc).2
 obtain ⟨aa,ca,aq,cq,rfl,hAT,hCL⟩:=hp
 obtain ⟨⟨pR,pB⟩,ats,cls⟩:=p
 dsimp only at*
 have HAT:=Lib.hid hAT
 have HCL:=Lib.hid hCL
 clear hAT hCL HP hsm hcl ht
 obtain ⟨n,hnl⟩:∃ n,ats.length=n:=⟨_,rfl⟩
 have HNA:=Lib.hid hnl
 obtain ⟨nc,hncl⟩:∃ n,cls.length=n:=⟨_,rfl⟩
 have HNC:=Lib.hid hncl
 rw [hnl] at HAT hna HGR HIN HKN HTD ⊢
 rw [hncl] at HCL hnc HGR HIN HKN HTD ⊢
 clear hnl hncl
 obtain ⟨w1,hw1,b1,c1,c2,-,-,hs1⟩:=bx2 w [.int .i64 pR,.int .i64 pB,.slice aa n ca,.slice aq nc cq] [.int .i64 0,.int .i64 0,.slice none 0 0,.slice none 0 0] 34 34
 have HW:=Lib.hid hw1
 have C1:=Lib.hid c1
 have B1:=Lib.hid b1
 have R2:Hid (Rt w1 (w.heap.size+1) 4 34):=by
  show Rt _ _ _ _
  rw [hw1]
  have:=Rt.new (w.alloc (.cells #[.int .i64 pR,.int .i64 pB,.slice aa n ca,.slice aq nc cq] 34)) [.int .i64 0,.int .i64 0,.slice none 0 0,.slice none 0 0] 34
  simpa using this
 clear hw1 c1 c2 b1 hs1
 go_enter Tryz.func5,Tryz.ntmps5
 go_upto_region 1 with (fail)
 rw [← HW.out]
 clear HW
 obtain ⟨k0,k1,k2,k3⟩:=C1.out.c4
 go_upto_if 11 with (go_at_call 14;refine (HGR.out _ B1.out).mono ?_;rintro e w2 ⟨_,rfl,X2,bg,rfl,hbg⟩;have HBG:=Lib.hid hbg;have X2:=Lib.hid X2;clear hbg)
 clear k0 k1 k2 k3 HGR
 cases bg with
 | true=>
  obtain ⟨_,_,_,_,y0,y1,y2,y3,f0,f1,f2,f3⟩:=(R2.out.ext X2.out).c4
  go_wp2_with fail
  refine bodyPost_ret (v:=.tuple #[.agg #[.int .i64 0,.int .i64 0,.slice none 0 0,.slice none 0 0],.int .i64 2]) (by simp [results,Tryz.results5,go_sem,y0,y1,y2,y3]) rfl ?_
  exact hR.out _ _ (Gives.mk (putL_below (by omega) [_,_,_,_] 0 (Ext.trans B1.out X2.out)) ⟨_,_,rfl,((0,0),[],[]),ownpq_nil _,fun h=>absurd h (by decide)⟩)
 | false=>
  have HGS:=Lib.hid (HBG.out.1 rfl)
  clear HBG
  obtain ⟨k0,k1,k2,k3⟩:=(C1.out.ext X2.out).c4
  by_cases hR0:pR < 0
  ·have d0:decide (pR < 0)=true:=decide_eq_true hR0
   obtain ⟨_,_,_,_,y0,y1,y2,y3,f0,f1,f2,f3⟩:=(R2.out.ext X2.out).c4
   go_wp2_with fail
   refine bodyPost_ret (v:=.tuple #[.agg #[.int .i64 0,.int .i64 0,.slice none 0 0,.slice none 0 0],.int .i64 4]) (by simp [results,Tryz.results5,go_sem,y0,y1,y2,y3]) rfl ?_
   exact hR.out _ _ (Gives.mk (putL_below (by omega) [_,_,_,_] 0 (Ext.trans B1.out X2.out)) ⟨_,_,rfl,((0,0),[],[]),ownpq_nil _,fun h=>absurd h (by decide)⟩)
  ·have d0:decide (pR < 0)=false:=decide_eq_false hR0
   by_cases hB0:pB < 0
   ·have d1:decide (pB < 0)=true:=decide_eq_true hB0
    obtain ⟨_,_,_,_,y0,y1,y2,y3,f0,f1,f2,f3⟩:=(R2.out.ext X2.out).c4
    go_wp2_with fail
    refine bodyPost_ret (v:=.tuple #[.agg #[.int .i64 0,.int .i64 0,.slice none 0 0,.slice none 0 0],.int .i64 4]) (by simp [results,Tryz.results5,go_sem,y0,y1,y2,y3]) rfl ?_
    exact hR.out _ _ (Gives.mk (putL_below (by omega) [_,_,_,_] 0 (Ext.trans B1.out X2.out)) ⟨_,_,rfl,((0,0),[],[]),ownpq_nil _,fun h=>absurd h (by decide)⟩)
   ·have d1:decide (pB < 0)=false:=decide_eq_false hB0
    have HRB:Hid (0≤pR∧0≤pB):=⟨by omega,by omega⟩
    go_upto_region 6 with fail
    clear k0 k1 k2 k3 d0 d1 hR0 hB0
    go_loopw [25] (fun t wr=>∃ i:Nat,t=.int .i64 i∧i≤n∧Hid (Ext w1 wr)∧Hid (∀ j (h:j < ats.length),j < i→(1≤(ats[j]).2∧(ats[j]).2≤3)∧∀ t∈(ats[j]).1.1,0≤t.1∧t.1 < pR)) (fun t _=>n - (intOf t).toNat)
    case atStart=>exact ⟨0,rfl,Nat.zero_le _,X2,Lib.hid fun j _ h=>absurd h (Nat.not_lt_zero _)⟩
    case round=>
     clear X2
     obtain ⟨i,rfl,hi,hX,hP⟩:=hrel
     obtain ⟨w5,hw5⟩:∃ w0:World,w0=wr:=⟨_,rfl⟩
     subst hw5
     have X05:=Lib.hid (Ext.trans B1.out hX.out)
     by_cases hin:i < n
     ·have hd:decide ((i:Int) < (n:Int))=true:=decide_eq_true (by omega)
      have HJ1:IntKind.i64.wrap ((i:Int)+1)=((i+1:Nat):Int):=by rw [IntKind.wrap_i64];omega
      have HJ2:(0:Int)≤(i:Int)∧(i:Int) < (n:Int):=⟨by omega,by omega⟩
      have hil:i < ats.length:=by rw [HNA.out];exact hin
      obtain ⟨bA,oA,xa,xk,xs,xb,xm,xd,xb',xm',xd',hae,hbo,hax⟩:=HAT.out.atm i hil
      subst hae
      obtain ⟨u0,u1,u2,u3,u4⟩:=(hbo.ext X05.out).c5
      have HGO:Hid ((1≤(ats[i]).2∧(ats[i]).2≤3)→(∀ t∈(ats[i]).1.1,0≤t.1∧t.1 < pR)→∀ j (h:j < ats.length),j < i+1→(1≤(ats[j]).2∧(ats[j]).2≤3)∧∀ t∈(ats[j]).1.1,0≤t.1∧t.1 < pR):=fun h1 h2 j h hj=>by
       by_cases he:j=i
       ·subst he;exact ⟨h1,h2⟩
       ·exact hP.out j h (by omega)
      have HAM:=Lib.hid (List.getElem_mem hil)
      obtain ⟨a,ha⟩:∃ a,ats[i]=a:=⟨_,rfl⟩
      rw [ha] at u0 u4 hax HGO HAM
      have HCK:Hid (∀ w',Ext w w'→Calls Tryz.prog 15 #[.agg #[.slice xa a.1.1.length xk,.bool xs,.slice xb xm xd,.slice xb' xm' xd',.int .i64 a.2]] w' (Gives w' fun v' _=>v'=.int .i64 (chk a.2))):=fun w' x=>check9_any ⟨_,_,_,_,rfl,hax.ext x⟩
      have HI1:Hid (∀ w',Ext w w'→Calls Tryz.prog 16 #[.agg #[.int .i64 pR,.int .i64 pB,.slice (some ⟨bA,oA,none⟩) n ca,.slice aq nc cq],.agg #[.slice xa a.1.1.length xk,.bool xs,.slice xb xm xd,.slice xb' xm' xd',.int .i64 a.2]] w' (Gives w' fun v' _=>∃ b:Bool,v'=.bool b∧(b=true↔∀ t∈a.1.1,0≤t.1∧t.1 < pR))):=fun w' x=>HIN.out _ _ _ x HAM.out ⟨_,_,_,_,rfl,hax.ext x⟩
      clear hbo hax ha hil
      generalize a.1.1.length=la at*
      obtain ⟨op,hope⟩:∃ op,a.2=op:=⟨_,rfl⟩
      rw [hope] at u4 HCK HI1 HGO
      clear hope
      obtain ⟨w6,hw6,b6,c6,-,-⟩:=bx1 w5 [.slice xa la xk,.bool xs,.slice xb xm xd,.slice xb' xm' xd',.int .i64 op] 63
      have HW:=Lib.hid hw6
      have C6:=Lib.hid c6
      have B6:=Lib.hid b6
      clear hw6 c6 b6
      go_upto_region 8 with fail
      rw [← HW.out]
      clear HW u0 u1 u2 u3 u4
      have X16:=Lib.hid (Ext.trans hX.out B6.out)
      have X06:=Lib.hid (Ext.trans B1.out X16.out)
      obtain ⟨q0,q1,q2,q3,q4⟩:=C6.out.c5
      by_cases hop:1≤op∧op≤3
      ·have HOP:=Lib.hid hop
       have hck:chk op=0:=if_pos hop
       rw [hck] at HCK
       clear hck hop
       go_upto_if 37 with (first | (go_at_call 15;refine (HCK.out _ X06.out).mono ?_;rintro e w7 ⟨_,rfl,X7,rfl⟩;have X7:=Lib.hid X7;obtain ⟨k0,k1,k2,k3⟩:=(C1.out.ext (Ext.trans X16.out X7.out)).c4;obtain ⟨z0,z1,z2,z3,z4⟩:=(C6.out.ext X7.out).c5) | (go_at_call 16;refine (HI1.out _ (Ext.trans X06.out X7.out)).mono ?_;rintro e w8 ⟨_,rfl,X8,b8,rfl,hb8⟩;have X8:=Lib.hid (Ext.trans X7.out X8);have HB8:=Lib.hid hb8;clear hb8))
       clear k0 k1 k2 k3 z0 z1 z2 z3 z4 q0 q1 q2 q3 q4
       have X18:=Lib.hid (Ext.trans X16.out X8.out)
       cases b8 with
       | true=>
        have HG:=Lib.hid (HGO.out HOP.out (HB8.out.1 rfl))
        go_wp2_with fail
        go_roundw
        case rel=>exact ⟨i+1,by go_num,by omega,X18,HG⟩
        case measure=>simp [intOf] <;> omega
       | false=>
        obtain ⟨_,_,_,_,y0,y1,y2,y3,f0,f1,f2,f3⟩:=(R2.out.ext X18.out).c4
        go_wp2_with fail
        refine bodyPost_ret (v:=.tuple #[.agg #[.int .i64 0,.int .i64 0,.slice none 0 0,.slice none 0 0],.int .i64 4]) (by simp [results,Tryz.results5,go_sem,y0,y1,y2,y3]) rfl ?_
        exact hR.out _ _ (Gives.mk (putL_below (by omega) [_,_,_,_] 0 (Ext.trans B1.out X18.out)) ⟨_,_,rfl,((0,0),[],[]),ownpq_nil _,fun h=>absurd h (by decide)⟩)
      ·have hck:chk op=4:=if_neg hop
       rw [hck] at HCK
       clear hck hop
       go_upto_if 37 with (go_at_call 15;refine (HCK.out _ X06.out).mono ?_;rintro e w7 ⟨_,rfl,X7,rfl⟩;have X7:=Lib.hid X7)
       have X18:=Lib.hid (Ext.trans X16.out X7.out)
       obtain ⟨_,_,_,_,y0,y1,y2,y3,f0,f1,f2,f3⟩:=(R2.out.ext X18.out).c4
       go_wp2_with fail
       refine bodyPost_ret (v:=.tuple #[.agg #[.int .i64 0,.int .i64 0,.slice none 0 0,.slice none 0 0],.int .i64 4]) (by simp [results,Tryz.results5,go_sem,y0,y1,y2,y3]) rfl ?_
       exact hR.out _ _ (Gives.mk (putL_below (by omega) [_,_,_,_] 0 (Ext.trans B1.out X18.out)) ⟨_,_,rfl,((0,0),[],[]),ownpq_nil _,fun h=>absurd h (by decide)⟩)
     ·obtain rfl:i=n:=by omega
      have hd:decide ((i:Int) < (i:Int))=false:=decide_eq_false (by omega)
      have HALL:Hid ((∀ a∈ats,1≤a.2∧a.2≤3)∧∀ a∈ats,∀ t∈a.1.1,0≤t.1∧t.1 < pR):=by
       refine ⟨fun a ha=>?_,fun a ha=>?_⟩
       ·obtain ⟨j,hj,rfl⟩:=List.getElem_of_mem ha
        exact (hP.out j hj (by rw [← HNA.out];exact hj)).1
       ·obtain ⟨j,hj,rfl⟩:=List.getElem_of_mem ha
        exact (hP.out j hj (by rw [← HNA.out];exact hj)).2
      have HKN2:=Lib.hid (HKN.out HRB.out.2 HGS.out.2.1)
      clear hP HKN
      obtain ⟨k0,k1,k2,k3⟩:=(C1.out.ext hX.out).c4
      go_upto_region 12 with fail
      clear k0 k1 k2 k3 hd hin
      go_loopw [43] (fun t wr=>∃ j:Nat,t=.int .i64 j∧j≤nc∧Hid (Ext w1 wr)∧Hid (∀ k (h:k < cls.length),k < j→∀ l∈cls[k],knownL (pB+i) l)) (fun t _=>nc - (intOf t).toNat)
      case atStart=>exact ⟨0,rfl,Nat.zero_le _,hX,Lib.hid fun j _ h=>absurd h (Nat.not_lt_zero _)⟩
      case round=>
       clear hX X05
       obtain ⟨j,rfl,hj,hX,hP⟩:=hrel
       obtain ⟨w6,hw6⟩:∃ w0:World,w0=wr:=⟨_,rfl⟩
       subst hw6
       have X06:=Lib.hid (Ext.trans B1.out hX.out)
       by_cases hjn:j < nc
       ·have hd:decide ((j:Int) < (nc:Int))=true:=decide_eq_true (by omega)
        have HJ1:IntKind.i64.wrap ((j:Int)+1)=((j+1:Nat):Int):=by rw [IntKind.wrap_i64];omega
        have HJ2:(0:Int)≤(j:Int)∧(j:Int) < (nc:Int):=⟨by omega,by omega⟩
        have hjl:j < cls.length:=by rw [HNC.out];exact hjn
        obtain ⟨bC,oC,xC,mC,he,hce,hrr⟩:=RdRow.rowC (HCL.out.ext (fun h x=>RowT.ext h IntT.ext x) X06.out) j hjl
        subst he
        have HGO:Hid ((∀ l∈cls[j],knownL (pB+i) l)→∀ k (h:k < cls.length),k < j+1→∀ l∈cls[k],knownL (pB+i) l):=fun g k h hk=>by
         by_cases he:k=j
         ·subst he;exact g
         ·exact hP.out k h (by omega)
        have HIJ:=Lib.hid (HCI.out _ (List.getElem_mem hjl))
        have HLJ:=Lib.hid (HGS.out.2.2 _ (List.getElem_mem hjl))
        obtain ⟨c,hc⟩:∃ c,cls[j]=c:=⟨_,rfl⟩
        rw [hc] at hce hrr HGO HIJ HLJ
        have HRR:=Lib.hid hrr
        obtain ⟨mc,hmc⟩:∃ m,c.length=m:=⟨_,rfl⟩
        have HMC:=Lib.hid hmc
        rw [hmc] at hce HRR HLJ
        clear hc hrr hmc hjl hP
        go_upto_region 15 with fail
        clear hce
        go_loopw [49] (fun t wr=>∃ u:Nat,t=.int .i64 u∧u≤mc∧Hid (Ext w6 wr)∧Hid (∀ k (h:k < c.length),k < u→knownL (pB+i) c[k])) (fun t _=>mc - (intOf t).toNat)
        case atStart=>exact ⟨0,rfl,Nat.zero_le _,Lib.hid (Ext.refl _),Lib.hid fun j _ h=>absurd h (Nat.not_lt_zero _)⟩
        case round=>
         obtain ⟨u,rfl,hu,hZ,hQ⟩:=hrel
         obtain ⟨w7,hw7⟩:∃ w0:World,w0=wr:=⟨_,rfl⟩
         subst hw7
         have X17:=Lib.hid (Ext.trans hX.out hZ.out)
         by_cases hun:u < mc
         ·have hd2:decide ((u:Int) < (mc:Int))=true:=decide_eq_true (by omega)
          have HK1:IntKind.i64.wrap ((u:Int)+1)=((u+1:Nat):Int):=by have:=HLJ.out;rw [IntKind.wrap_i64];omega
          have HK2:(0:Int)≤(u:Int)∧(u:Int) < (mc:Int):=⟨by omega,by omega⟩
          have hul:u < c.length:=by rw [HMC.out];exact hun
          obtain ⟨b8,o8,he8,hc8⟩:=(HRR.out.ext IntT.ext hZ.out).intAt u hul
          subst he8
          have HG2:Hid (knownL (pB+i) c[u]→∀ k (h:k < c.length),k < u+1→knownL (pB+i) c[k]):=fun g k h hk=>by
           by_cases he:k=u
           ·subst he;exact g
           ·exact hQ.out k h (by omega)
          have HKC:=Lib.hid (fun w' x=>HKN2.out w' c[u] x (HIJ.out _ (List.getElem_mem hul)))
          generalize c[u]=l at*
          clear hul
          obtain ⟨k0,k1,k2,k3⟩:=(C1.out.ext X17.out).c4
          go_upto_if 56 with (go_at_call 17;refine (HKC.out _ (Ext.trans B1.out X17.out)).mono ?_;rintro e w8 ⟨_,rfl,X8,b9,rfl,hb9⟩;have X8:=Lib.hid X8;have HB9:=Lib.hid hb9;clear hb9)
          cases b9 with
          | true=>
           have HG:=Lib.hid (HG2.out (HB9.out.1 rfl))
           go_wp2_with fail
           go_roundw
           case rel=>exact ⟨u+1,by go_num,by omega,Ext.trans hZ.out X8.out,HG⟩
           case measure=>simp [intOf] <;> omega
          | false=>
           have X18:=Lib.hid (Ext.trans X17.out X8.out)
           obtain ⟨_,_,_,_,y0,y1,y2,y3,f0,f1,f2,f3⟩:=(R2.out.ext X18.out).c4
           go_wp2_with fail
           refine bodyPost_ret (v:=.tuple #[.agg #[.int .i64 0,.int .i64 0,.slice none 0 0,.slice none 0 0],.int .i64 4]) (by simp [results,Tryz.results5,go_sem,y0,y1,y2,y3]) rfl ?_
           exact hR.out _ _ (Gives.mk (putL_below (by omega) [_,_,_,_] 0 (Ext.trans B1.out X18.out)) ⟨_,_,rfl,((0,0),[],[]),ownpq_nil _,fun h=>absurd h (by decide)⟩)
         ·obtain rfl:u=mc:=by omega
          have hd2:decide ((u:Int) < (u:Int))=false:=decide_eq_false (by omega)
          have HG:=Lib.hid (HGO.out fun l hl=>by
           obtain ⟨k,hk,rfl⟩:=List.getElem_of_mem hl
           exact hQ.out k hk (by rw [← HMC.out];exact hk))
          clear hQ
          go_wp2_with fail
          go_roundw
          case rel=>exact ⟨j+1,by go_num,by omega,X17,HG⟩
          case measure=>simp [intOf] <;> omega
       ·obtain rfl:j=nc:=by omega
        have hd:decide ((j:Int) < (j:Int))=false:=decide_eq_false (by omega)
        have HTC:=Lib.hid (HTD.out HRB.out.1 HGS.out.1 HRB.out.2 HGS.out.2.1 HALL.out.1 HALL.out.2 fun c hc=>⟨HGS.out.2.2 c hc,by
         obtain ⟨k,hk,rfl⟩:=List.getElem_of_mem hc
         exact hP.out k hk (by rw [← HNC.out];exact hk)⟩)
        clear hP HTD
        obtain ⟨k0,k1,k2,k3⟩:=(C1.out.ext hX.out).c4
        go_wp2_with (go_at_call 18;refine (HTC.out _ X06.out).mono ?_;rintro e w8 ⟨_,rfl,X8,x,hx,hgx⟩;have X8:=Lib.hid X8;have HGX:=Lib.hid hgx;obtain ⟨x1,x2,x3,x4,rfl,hx5,hx6⟩:=hx;have HX5:=Lib.hid hx5;have HX6:=Lib.hid hx6;obtain ⟨_,_,_,_,y0,y1,y2,y3,f0,f1,f2,f3⟩:=(R2.out.ext (Ext.trans hX.out X8.out)).c4;clear hx5 hx6 hgx)
        refine bodyPost_ret (v:=.tuple #[.agg #[.int .i64 x.1.1,.int .i64 x.1.2,.slice x1 x.2.1.length x2,.slice x3 x.2.2.length x4],.int .i64 0]) (by simp [results,Tryz.results5,go_sem,y0,y1,y2,y3]) rfl ?_
        have R28:=R2.out.ext (Ext.trans hX.out X8.out)
        exact hR.out _ _ (Gives.mk (putL_below (by omega) [_,_,_,_] 0 (Ext.trans X06.out X8.out)) ⟨_,_,rfl,x,⟨x1,x2,x3,x4,rfl,HX5.out.putT R28 (by decide) 0 [_,_,_,_] (fun _ _ h=>OwnAt.putT h R28 (by decide) (by decide) 0 [_,_,_,_]),HX6.out.putT R28 (by decide) 0 [_,_,_,_] (fun _ _ h=>RowY.putT h R28 (by decide) 0 [_,_,_,_] fun _ _ h=>h)⟩,fun _=>HGX.out⟩)
end Go.Proofs.YtdooldpgnjmpfaaGreatDoor
