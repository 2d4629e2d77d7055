/- A group of texts: PFormed, RowTake, PFollow, AtomY, PAtomY -/
import Derived.Test.YtdooldpgnjmpfaaGreatDoorSq
import Derived.Test.YtdooldpgnjmpfaaGreatDoorPartBB
import Derived.Test.YtdooldpgnjmpfaaGreatDoorPartAJ
import Derived.Test.YtdooldpgnjmpfaaGreatDoorPartCF
import Derived.Test.YtdooldpgnjmpfaaGreatDoorPartAC
import Derived.Test.YtdooldpgnjmpfaaGreatDoorPFollows
import Derived.Test.YtdooldpgnjmpfaaGreatDoorPartAH
import Derived.Test.YtdooldpgnjmpfaaGreatDoorPartAG
import Derived.Test.YtdooldpgnjmpfaaGreatDoorPartCA
namespace Go.Proofs.YtdooldpgnjmpfaaGreatDoor
open Go.RowKit Go.Att

set_option maxRecDepth 100000 in
set_option linter.unusedSimpArgs false in
set_option maxHeartbeats 8000000 in
theorem formed_any {α ν:Type} {A:World→Value→α→Prop} {C:World→Value→List Int→Prop} {D:World→Value→List ν→Prop} {w:World} {vp vs:Value} {p:Pq α} {s:Sq ν} (hp:RdPq A C w vp p) (hs:RdSq (TyRow 1 IntT 3) D w vs s) (hz:∀ z∈s.1.2,In64 z) (hl:s.1.2.length≤1000)
  (hB0:0≤p.1.2) (hB1:p.1.2≤1000) (hA:p.2.1.length≤1000):
  Calls Tryz.prog 24 #[vp,vs] w (Gives w fun v' _=>∃ b:Bool,v'=.bool b∧(b=true→cnL s.1.2=s.1.2∧(∀ l∈s.1.2,knownL (p.1.2+p.2.1.length) l)∧1≤s.1.1∧s.1.1≤3)):=by
 refine via fun R hR=>?_
 obtain ⟨a,c,a',c',rfl,-,-⟩:=hp
 obtain ⟨b,d,b',d',b'',d'',rfl,g1,-,-⟩:=hs
 have HS:=Lib.hid g1
 have HC:Hid (∀ w',Ext w w'→Calls Tryz.prog 34 #[.slice b s.1.2.length d] w' (Gives w' (CanonR s.1.2))):=fun w' x=>ccanon_any (g1.1.ext (fun h _=>h) x) hz (by omega)
 have HZ:=Lib.hid hz
 have HL:=Lib.hid hl
 clear g1 hz hl
 obtain ⟨⟨rule,cl⟩,ix,pr,ts⟩:=s
 obtain ⟨⟨pR,pB⟩,ats,cls⟩:=p
 dsimp only at*
 generalize cls.length=nc at*
 generalize pr.length=npr at*
 generalize ts.length=nts at*
 generalize ats.length=na at*
 obtain ⟨n,hn⟩:∃ n,cl.length=n:=⟨_,rfl⟩
 have HN:=Lib.hid hn
 rw [hn] at HS HC HL ⊢
 clear hn
 have HB0:=Lib.hid hB0
 have HB1:=Lib.hid hB1
 have HA:=Lib.hid hA
 clear hB0 hB1 hA
 obtain ⟨w1,hw1,b1,c1,c2,-,-,-⟩:=bx2 w [.int .i64 pR,.int .i64 pB,.slice a na c,.slice a' nc c'] [.int .i64 rule,.slice b n d,.int .i64 ix,.slice b' npr d',.slice b'' nts d''] 34 46
 have HW:=Lib.hid hw1
 have C1:=Lib.hid c1
 have C2:=Lib.hid c2
 clear hw1 c1 c2
 go_enter Tryz.func24,Tryz.ntmps24
 go_upto_region 1 with (fail)
 rw [← HW.out]
 clear HW
 obtain ⟨k0,k1,k2,k3⟩:=C1.out.c4
 obtain ⟨j0,j1,j2,j3,j4⟩:=C2.out.c5
 go_upto_region 2 with (go_at_call 34;refine (HC.out _ b1).mono ?_;rintro e w5 ⟨v5,rfl,X5,p5,n5,c5,e5,rfl,G5⟩;have G5:=Lib.hid G5;have X5:=Lib.hid X5)
 clear k0 k1 k2 k3 j0 j1 j2 j3 j4
 obtain ⟨k0,k1,k2,k3⟩:=(C1.out.ext X5.out).c4
 obtain ⟨j0,j1,j2,j3,j4⟩:=(C2.out.ext X5.out).c5
 rcases G5.out with ⟨rfl,-⟩ | ⟨rfl,hn5,Z5,T5⟩
 ·go_wp2_with fail
  exact hR.out _ _ (Gives.mk (Ext.trans b1 X5.out) ⟨false,rfl,fun h=>by cases h⟩)
 ·have HE:=Lib.hid (equal_ints T5.1 (HS.out.1.ext (fun h _=>h) (Ext.trans b1 X5.out)))
  have HT:=Lib.hid T5.1
  have HZ5:=Lib.hid Z5
  have HN5:=Lib.hid hn5
  clear G5 T5 Z5 hn5 HC
  cases hb:(cnL cl == cl) with
  | false=>
   rw [hb] at HE
   go_wp2_with (go_at_call 37;refine HE.out.mono ?_;rintro e w6 ⟨v6,rfl,X6,rfl⟩)
   exact hR.out _ _ (Gives.mk (Ext.trans b1 (Ext.trans X5.out X6)) ⟨false,rfl,fun h=>by cases h⟩)
  | true=>
   rw [hb] at HE
   have HEQ:Hid (cnL cl=cl):=Lib.hid (eq_of_beq hb)
   clear hb
   go_upto_region 4 with (go_at_call 37;refine HE.out.mono ?_;rintro e w6 ⟨v6,rfl,X6,rfl⟩;have X6:=Lib.hid X6)
   have HT6:Hid (RdRow 1 IntT w6 (.slice p5 n5 c5) cl):=by
    have:=HT.out.ext (fun h _=>h) X6.out
    rw [HEQ.out] at this
    exact this
   have HN6:Hid (n5=n):=by rw [HN5.out,HEQ.out];exact HN
   have XF:=Lib.hid (Ext.trans b1 (Ext.trans X5.out X6.out))
   clear k0 k1 k2 k3 j0 j1 j2 j3 j4 HE HT HN5
   obtain ⟨k0,k1,k2,k3⟩:=(C1.out.ext (Ext.trans X5.out X6.out)).c4
   obtain ⟨j0,j1,j2,j3,j4⟩:=(C2.out.ext (Ext.trans X5.out X6.out)).c5
   have h56:=HN6.out
   subst h56
   clear HN6 G5
   obtain ⟨q,hq0⟩:∃ q:Int,pB+(na:Int)=q:=⟨_,rfl⟩
   have hq:IntKind.i64.wrap (pB+(na:Int))=q:=by have:=HB0.out;have:=HB1.out;have:=HA.out;rw [IntKind.wrap_i64];omega
   rw [hq0] at hR
   have HQ:Hid (q≤2000):=by have:=HB1.out;have:=HA.out;exact Lib.hid (by omega)
   clear hq0
   go_upto_region 5 with fail
   go_loopw [26] (fun t wr=>∃ j:Nat,t=.int .i64 j∧j≤n5∧wr=w6∧Hid (∀ i (h:i < cl.length),i < j→((cl[i]).natAbs:Int)≤q)) (fun t _=>n5 - (intOf t).toNat)
   case atStart=>exact ⟨0,rfl,Nat.zero_le _,rfl,fun i _ h=>absurd h (Nat.not_lt_zero _)⟩
   case round=>
    obtain ⟨j,rfl,hj,hX,hP⟩:=hrel
    subst hX
    by_cases hjn:j < n5
    ·have hd:decide ((j:Int) < (n5:Int))=true:=decide_eq_true (by omega)
     have HJ2:(0:Int)≤(j:Int)∧(j:Int) < (n5:Int):=⟨by omega,by omega⟩
     have HJ1:IntKind.i64.wrap ((j:Int)+1)=((j+1:Nat):Int):=by have:=HL.out;rw [IntKind.wrap_i64];omega
     have hjl:j < cl.length:=by rw [HN.out];exact hjn
     have HT':=HT6.out
     obtain ⟨bx,ox,he⟩:=HT'.some_atI hjl
     subst he
     have hc:=HT'.int j hjl
     have HGO:Hid (((cl[j]).natAbs:Int)≤q→∀ i (h:i < cl.length),i < j+1→((cl[i]).natAbs:Int)≤q):=fun g i h hi=>by
      by_cases he:i=j
      ·subst he;exact g
      ·exact hP.out i h (by omega)
     have HI:=Lib.hid (HZ.out _ (List.getElem_mem hjl))
     have HNZ:=Lib.hid (HZ5.out _ (List.getElem_mem hjl))
     obtain ⟨z,hz⟩:∃ z,cl[j]=z:=⟨_,rfl⟩
     rw [hz] at hc HGO HI HNZ
     clear hz HT' hjl hP
     have hmin:z ≠ -9223372036854775808:=fun h=>by
      have:=HNZ.out
      rw [h] at this
      exact this (by unfold szl;rw [if_pos rfl])
     obtain ⟨m,hm⟩:∃ m:Int,-z=m:=⟨_,rfl⟩
     have hneg:IntKind.i64.wrap (-z)=m:=by obtain ⟨g1,g2⟩:=HI.out;rw [IntKind.wrap_i64];omega
     have HMM:=Lib.hid hm
     have HMI:=Lib.hid hmin
     clear hm hmin
     obtain ⟨y,hy⟩:∃ y:Int,(z.natAbs:Int)=y:=⟨_,rfl⟩
     have HY:=Lib.hid hy
     rw [hy] at HGO
     clear hy
     by_cases hs:z≤m
     ·have hmax:y=m:=by have:=HMM.out;have:=HY.out;omega
      subst hmax
      by_cases hgq:q < y
      ·have hg:decide (y > q)=true:=decide_eq_true hgq
       have hg':decide (q < y)=true:=decide_eq_true hgq
       go_wp2_with fail
       exact hR.out _ _ (Gives.mk XF.out ⟨false,rfl,fun h=>by cases h⟩)
      ·have hg:decide (y > q)=false:=decide_eq_false hgq
       have hg':decide (q < y)=false:=decide_eq_false hgq
       have HG:=Lib.hid (HGO.out (by omega))
       clear HGO
       go_wp2_with fail
       go_roundw
       case rel=>exact ⟨j+1,by go_num,by omega,by first | rfl | trivial,HG.out⟩
       case measure=>simp [intOf] <;> omega
     ·have hmax:y=z:=by have:=HMM.out;have:=HY.out;omega
      have hs':¬ z≤m:=hs
      subst hmax
      by_cases hgq:q < y
      ·have hg:decide (y > q)=true:=decide_eq_true hgq
       have hg':decide (q < y)=true:=decide_eq_true hgq
       go_wp2_with fail
       exact hR.out _ _ (Gives.mk XF.out ⟨false,rfl,fun h=>by cases h⟩)
      ·have hg:decide (y > q)=false:=decide_eq_false hgq
       have hg':decide (q < y)=false:=decide_eq_false hgq
       have HG:=Lib.hid (HGO.out (by omega))
       clear HGO
       go_wp2_with fail
       go_roundw
       case rel=>exact ⟨j+1,by go_num,by omega,by first | rfl | trivial,HG.out⟩
       case measure=>simp [intOf] <;> omega
    ·obtain rfl:j=n5:=by omega
     have hd:decide ((j:Int) < (j:Int))=false:=decide_eq_false (by omega)
     have HALL:Hid (∀ l∈cl,knownL q l):=fun l hl=>by
      obtain ⟨i,hi,rfl⟩:=List.getElem_of_mem hl
      have h1:=HZ5.out _ (List.getElem_mem hi)
      refine ⟨fun h0=>h1 (by rw [h0];rfl),fun h0=>h1 (by rw [h0];unfold szl;rw [if_pos rfl]),hP.out i hi (by rw [← HN.out];exact hi)⟩
     clear hP
     by_cases r1:rule=1
     ·subst r1
      rcases Nat.eq_zero_or_pos npr with e1 | e1
      ·subst e1
       rcases Nat.eq_zero_or_pos nts with e1 | e1
       ·subst e1
        go_wp2_with fail
        exact hR.out _ _ (Gives.mk XF.out ⟨_,rfl,fun _=>⟨HEQ.out,HALL.out,by decide,by decide⟩⟩)
       ·have e2:((nts:Int) == 0)=false:=beq_false_of_ne (by omega)
        have e3:decide ((nts:Int)=0)=false:=decide_eq_false (by omega)
        have e4:(nts == 0)=false:=beq_false_of_ne (by omega)
        have e5:decide (nts=0)=false:=decide_eq_false (by omega)
        clear e1
        go_wp2_with fail
        exact hR.out _ _ (Gives.mk XF.out ⟨_,rfl,fun _=>⟨HEQ.out,HALL.out,by decide,by decide⟩⟩)
      ·have e2:((npr:Int) == 0)=false:=beq_false_of_ne (by omega)
       have e3:decide ((npr:Int)=0)=false:=decide_eq_false (by omega)
       have e4:(npr == 0)=false:=beq_false_of_ne (by omega)
       have e5:decide (npr=0)=false:=decide_eq_false (by omega)
       clear e1
       go_wp2_with fail
       exact hR.out _ _ (Gives.mk XF.out ⟨_,rfl,fun _=>⟨HEQ.out,HALL.out,by decide,by decide⟩⟩)
     ·have f1:(rule == 1)=false:=beq_false_of_ne r1
      have f1':decide (rule=1)=false:=decide_eq_false r1
      by_cases r2:rule=2
      ·subst r2
       by_cases e6:ix=0
       ·subst e6
        rcases Nat.eq_zero_or_pos npr with e1 | e1
        ·subst e1
         go_wp2_with fail
         exact hR.out _ _ (Gives.mk XF.out ⟨_,rfl,fun _=>⟨HEQ.out,HALL.out,by decide,by decide⟩⟩)
        ·have e2:((npr:Int) == 0)=false:=beq_false_of_ne (by omega)
         have e3:decide ((npr:Int)=0)=false:=decide_eq_false (by omega)
         have e4:(npr == 0)=false:=beq_false_of_ne (by omega)
         have e5:decide (npr=0)=false:=decide_eq_false (by omega)
         clear e1
         go_wp2_with fail
         exact hR.out _ _ (Gives.mk XF.out ⟨_,rfl,fun _=>⟨HEQ.out,HALL.out,by decide,by decide⟩⟩)
       ·have e7:(ix == 0)=false:=beq_false_of_ne e6
        have e8:decide (ix=0)=false:=decide_eq_false e6
        go_wp2_with fail
        exact hR.out _ _ (Gives.mk XF.out ⟨_,rfl,fun _=>⟨HEQ.out,HALL.out,by decide,by decide⟩⟩)
      ·have f2:(rule == 2)=false:=beq_false_of_ne r2
       have f2':decide (rule=2)=false:=decide_eq_false r2
       by_cases r3:rule=3
       ·subst r3
        by_cases e6:ix=0
        ·subst e6
         rcases Nat.eq_zero_or_pos nts with e1 | e1
         ·subst e1
          go_wp2_with fail
          exact hR.out _ _ (Gives.mk XF.out ⟨_,rfl,fun _=>⟨HEQ.out,HALL.out,by decide,by decide⟩⟩)
         ·have e2:((nts:Int) == 0)=false:=beq_false_of_ne (by omega)
          have e3:decide ((nts:Int)=0)=false:=decide_eq_false (by omega)
          have e4:(nts == 0)=false:=beq_false_of_ne (by omega)
          have e5:decide (nts=0)=false:=decide_eq_false (by omega)
          clear e1
          go_wp2_with fail
          exact hR.out _ _ (Gives.mk XF.out ⟨_,rfl,fun _=>⟨HEQ.out,HALL.out,by decide,by decide⟩⟩)
        ·have e7:(ix == 0)=false:=beq_false_of_ne e6
         have e8:decide (ix=0)=false:=decide_eq_false e6
         go_wp2_with fail
         exact hR.out _ _ (Gives.mk XF.out ⟨_,rfl,fun _=>⟨HEQ.out,HALL.out,by decide,by decide⟩⟩)
       ·have f3:(rule == 3)=false:=beq_false_of_ne r3
        have f3':decide (rule=3)=false:=decide_eq_false r3
        go_wp2_with fail
        exact hR.out _ _ (Gives.mk XF.out ⟨false,rfl,fun h=>by cases h⟩)
end Go.Proofs.YtdooldpgnjmpfaaGreatDoor

namespace Go.Att
open Go.RowKit
theorem Pw.take {α:Type} {k:Nat} {R:List Value→α→Prop}:∀ {E:List (List Value)} {l:List α} (m:Nat),Pw k R E l→Pw k R (E.take m) (l.take m)
 | [],[],m,_=>by simp [Pw]
 | _ :: _,_ :: _,0,_=>trivial
 | _ :: _,_ :: _,m+1,h=>⟨h.1,Pw.take m h.2⟩
 | [],_ :: _,_,h=>h.elim
 | _ :: _,[],_,h=>h.elim
theorem Pw.ftake {α:Type} {k:Nat} {R:List Value→α→Prop}:∀ {E:List (List Value)} {l:List α} (m:Nat),Pw k R E l→(E.take m).flatten=E.flatten.take (m*k)
 | [],[],m,_=>by simp
 | _ :: _,_ :: _,0,_=>by simp
 | c :: E,_ :: _,m+1,h=>by
  rw [List.take_succ_cons,List.flatten_cons,List.flatten_cons,Pw.ftake m h.2,show (m+1)*k=c.length+m*k by rw [h.1.1,Nat.succ_mul,Nat.add_comm],List.take_length_add_append]
 | [],_ :: _,_,h=>h.elim
 | _ :: _,[],_,h=>h.elim
theorem RdRow.take {α:Type} {k:Nat} {T:World→Value→α→Prop} {w:World} {a:Option Addr} {n c:Nat} {l:List α} (h:RdRow k T w (.slice a n c) l) {m:Nat} (hm:m≤l.length):RdRow k T w (.slice a m c) (l.take m):=by
 obtain ⟨E,⟨h0,a',c',hv,h1,h2,h3,h4⟩,hp⟩:=h
 simp only [Value.slice.injEq] at hv
 obtain ⟨rfl,rfl,rfl⟩:=hv
 have hl:(l.take m).length=m:=by rw [List.length_take];omega
 refine ⟨E.take m,?_,hp.take m⟩
 rw [hp.ftake m,hl]
 have hmk:m*k≤l.length*k:=Nat.mul_le_mul_right k hm
 refine ⟨by rw [List.length_take,h0];omega,a,c,rfl,by omega,h2,h3,fun i hi=>?_⟩
 rw [List.length_take] at hi
 obtain ⟨b,off,ha,hc⟩:=h4 i (by omega)
 exact ⟨b,off,ha,by rw [List.getElem?_take_of_lt (by omega)];exact hc⟩
end Go.Att

namespace Go.Proofs.YtdooldpgnjmpfaaGreatDoor
open Go.RowKit Go.Att

def stS (s:Sq Rat):St:=⟨s.1.1,s.1.2,s.2.1,s.2.2.1,s.2.2.2⟩
theorem gt_stS {L:List (Sq Rat)} {i:Nat} (h:i < L.length):gt (L.map stS) i=stS L[i]:=by
 rw [gt_lt (by rw [List.length_map];exact h),List.getElem_map]
theorem just_of {P:Pb} {L:List (Sq Rat)} {j:Nat} (hj:j < L.length) (hk:∀ l∈L[j].1.2,knownL (P.B+P.ats.length) l) (h:FolR P (L.take j) L[j]):JustOk P (L.map stS) j:=by
 unfold JustOk
 rw [gt_stS hj]
 refine ⟨hk,?_⟩
 rcases h with h | h | h
 ·exact .inl h
 ·exact .inr (.inl h)
 ·refine .inr (.inr fun V hV=>h V fun c hc=>?_)
  obtain ⟨s,hs,rfl⟩:=List.mem_map.1 hc
  obtain ⟨i,hi,rfl⟩:=List.getElem_of_mem hs
  rw [List.length_take] at hi
  have h1:=hV i (by omega)
  rw [gt_stS (by omega)] at h1
  rw [List.getElem_take]
  exact h1
def FollowR (P:Pb) (L:List (Sq Rat)) (i:Int) (e:Int):Prop:=∃ n:Nat,n≤L.length∧(e=0→i=0∧n=L.length)∧(e≠0→i=(n:Int)∧L≠[])∧∀ j,j < n→JustOk P (L.map stS) j
set_option linter.unusedSimpArgs false in
set_option maxHeartbeats 40000000 in
set_option maxRecDepth 100000 in
theorem follow_any {w : World} {vp vl : Value} {p : Pq AT} {L : List (Sq Rat)} (hp : RdPq OwnA (RowT 1 IntT) w vp p) (hg : GoodP kyA (pbQ p)) (hl : RdRow 5 QnS w vl L) (hs : ∀ s ∈ L, SqOk s) (hn : L.length ≤ 60) (ht : Lib.TabIs Tryz.prog w "internal/strconv.uint64pow10" .u64 Lib.pow10Tab) :
  Calls Tryz.prog 10 #[vp,vl] w (Gives w fun v' _=>∃ i e:Int,v'=.tuple #[.int .i64 i,.int .i64 e]∧FollowR (pbQ p) L i e):=by
 refine via fun R hR=>?_
 have HCK:Hid (∀ w',Ext w w'→Calls Tryz.prog 20 #[vp] w' (Gives w' fun v' _=>v'=.int .i64 0)):=fun w' x=>smtcheck_any (hp.ext OwnAt.ext (fun h x=>RowT.ext h IntT.ext x) x) hg (tab_ext ht x)
 have HFM:Hid (∀ w' v s,Ext w w'→s∈L→QnS w' v s→Calls Tryz.prog 24 #[vp,v] w' (Gives w' fun v' _=>∃ b:Bool,v'=.bool b∧(b=true→∀ l∈s.1.2,knownL (p.1.2+p.2.1.length) l))):=fun w' v s x hs' h=>by
  refine (formed_any (hp.ext OwnAt.ext (fun h x=>RowT.ext h IntT.ext x) x) h (hs s hs').2.1 (by have:=(hs s hs').1;omega) hg.B0 hg.B1 (by have:=hg.na;dsimp only at this;omega)).mono ?_
  rintro _ _ ⟨v,e,bb,b,rfl,hb⟩
  exact ⟨_,e,bb,b,rfl,fun h=>(hb h).2.1⟩
 have HFL:Hid (∀ w' vb v j (hj:j < L.length),Ext w w'→RdRow 5 QnS w' vb (L.take j)→QnS w' v L[j]→Calls Tryz.prog 25 #[vp,vb,v] w' (Gives w' fun v' _=>∃ b:Bool,v'=.bool b∧(b=true→FolR (pbQ p) (L.take j) L[j]))):=fun w' vb v j hj x h1 h2=>
  follows_any (hp.ext OwnAt.ext (fun h x=>RowT.ext h IntT.ext x) x) hg h1 h2 (fun t ht=>hs t (List.mem_of_mem_take ht)) (hs _ (List.getElem_mem hj))
 obtain ⟨P,hP⟩:∃ P,pbQ p=P:=⟨_,rfl⟩
 have HJ:Hid (∀ j (hj:j < L.length),(∀ l∈L[j].1.2,knownL (p.1.2+p.2.1.length) l)→FolR P (L.take j) L[j]→JustOk P (L.map stS) j):=fun j hj h1 h2=>just_of hj (by rw [← hP];exact h1) h2
 rw [hP] at hR HFL
 clear hP hg ht
 obtain ⟨aa,ca,aq,cq,rfl,-,-⟩:=hp
 obtain ⟨al,kl,rfl,hnk,hml⟩:=hl.shape
 have HL:=Lib.hid hl
 obtain ⟨⟨pR,pB⟩,ats,cls⟩:=p
 dsimp only at*
 unfold maxLen at hml
 clear hl hs
 obtain ⟨na,hna⟩:∃ n,ats.length=n:=⟨_,rfl⟩
 rw [hna] at HCK HFM HFL HJ ⊢
 clear hna
 generalize cls.length=nc at*
 obtain ⟨n,hnl⟩:∃ n,L.length=n:=⟨_,rfl⟩
 have HNL:=Lib.hid hnl
 have HN:=Lib.hid hn
 rw [hnl] at HL HN hnk ⊢
 have HNK:=Lib.hid hnk
 clear hnl hn hnk
 obtain ⟨w1,hw1,b1,c1,-,-⟩:=bx1 w [.int .i64 pR,.int .i64 pB,.slice aa na ca,.slice aq nc cq] 34
 have HW:=Lib.hid hw1
 have C1:=Lib.hid c1
 have B1:=Lib.hid b1
 clear hw1 c1 b1
 go_enter Tryz.func10,Tryz.ntmps10
 go_upto_region 1 with (fail)
 rw [← HW.out]
 clear HW
 obtain ⟨k0,k1,k2,k3⟩:=C1.out.c4
 have d3:decide ((n:Int) > 300000)=false:=decide_eq_false (by have:=HN.out;omega)
 have d3':decide ((300000:Int) < (n:Int))=false:=decide_eq_false (by have:=HN.out;omega)
 go_upto_region 7 with (go_at_call 20;refine (HCK.out _ B1.out).mono ?_;rintro e w2 ⟨_,rfl,X2,rfl⟩;have X2:=Lib.hid X2)
 clear k0 k1 k2 k3 HCK d3 d3'
 go_loopw [19] (fun t wr=>∃ j:Nat,t=.int .i64 j∧j≤n∧Hid (Ext w1 wr)∧Hid (∀ i,i < j→JustOk P (L.map stS) i)) (fun t _=>n - (intOf t).toNat)
 case atStart=>exact ⟨0,rfl,Nat.zero_le _,X2,Lib.hid fun i h=>absurd h (Nat.not_lt_zero _)⟩
 case round=>
  clear X2
  obtain ⟨j,rfl,hj,hX,hP⟩:=hrel
  obtain ⟨w4,hw4⟩:∃ w0:World,w0=wr:=⟨_,rfl⟩
  subst hw4
  have X04:=Lib.hid (Ext.trans B1.out hX.out)
  have HSTOP:Hid (∀ e:Int,j < n→e≠0→FollowR P L (j:Int) e):=fun e h he=>⟨j,by rw [HNL.out];omega,fun h=>absurd h he,fun _=>⟨rfl,fun h0=>by have:=HNL.out;rw [h0] at this;have:(0:Nat)=n:=this;omega⟩,hP.out⟩
  by_cases hjn:j < n
  ·have hd:decide ((j:Int) < (n:Int))=true:=decide_eq_true (by omega)
   have HJ1:IntKind.i64.wrap ((j:Int)+1)=((j+1:Nat):Int):=by have:=HN.out;rw [IntKind.wrap_i64];omega
   have HJ2:(0:Int)≤(j:Int)∧(j:Int) < (n:Int):=⟨by omega,by omega⟩
   have hjl:j < L.length:=by rw [HNL.out];exact hjn
   have HTK:=Lib.hid (HL.out.take (m:=j) (by omega))
   obtain ⟨bS,oS,x5,k5,y5,m5,z5,j5,hae,hbo,hq1,hq2,hq3⟩:=HL.out.sq j hjl
   subst hae
   obtain ⟨u0,u1,u2,u3,u4⟩:=(hbo.ext X04.out).c5
   have HQS:Hid (QnS w (.agg #[.int .i64 L[j].1.1,.slice x5 L[j].1.2.length k5,.int .i64 L[j].2.1,.slice y5 L[j].2.2.1.length m5,.slice z5 L[j].2.2.2.length j5]) L[j]):=⟨_,_,_,_,_,_,rfl,hq1,hq2,hq3⟩
   have HFC:Hid (∀ w',Ext w w'→Calls Tryz.prog 24 #[.agg #[.int .i64 pR,.int .i64 pB,.slice aa na ca,.slice aq nc cq],.agg #[.int .i64 L[j].1.1,.slice x5 L[j].1.2.length k5,.int .i64 L[j].2.1,.slice y5 L[j].2.2.1.length m5,.slice z5 L[j].2.2.2.length j5]] w' (Gives w' fun v' _=>∃ b:Bool,v'=.bool b∧(b=true→∀ l∈L[j].1.2,knownL (pB+na) l))):=fun w' x=>HFM.out _ _ _ x (List.getElem_mem hjl) (qns_ext HQS.out x)
   have HLC:Hid (∀ w',Ext w w'→Calls Tryz.prog 25 #[.agg #[.int .i64 pR,.int .i64 pB,.slice aa na ca,.slice aq nc cq],.slice (some ⟨bS,oS,none⟩) j kl,.agg #[.int .i64 L[j].1.1,.slice x5 L[j].1.2.length k5,.int .i64 L[j].2.1,.slice y5 L[j].2.2.1.length m5,.slice z5 L[j].2.2.2.length j5]] w' (Gives w' fun v' _=>∃ b:Bool,v'=.bool b∧(b=true→FolR P (L.take j) L[j]))):=fun w' x=>HFL.out _ _ _ j hjl x (HTK.out.ext qns_ext x) (qns_ext HQS.out x)
   have HJJ:Hid ((∀ l∈L[j].1.2,knownL (pB+na) l)→FolR P (L.take j) L[j]→∀ i,i < j+1→JustOk P (L.map stS) i):=fun h1 h2 i hi=>by
    by_cases he:i=j
    ·subst he;exact HJ.out _ hjl h1 h2
    ·exact hP.out i (by omega)
   generalize L[j].1.1=r9 at*
   generalize L[j].2.1=i9 at*
   generalize L[j].2.2.1.length=p9 at*
   generalize L[j].2.2.2.length=t9 at*
   generalize FolR P (L.take j) L[j]=FR at*
   generalize (∀ l∈L[j].1.2,knownL (pB+na) l)=KR at*
   generalize L[j].1.2.length=c9 at*
   clear hbo hq1 hq2 hq3 HQS hP HTK hjl
   obtain ⟨w6,hw6,b6,c6,-,-⟩:=bx1 w4 [.int .i64 r9,.slice x5 c9 k5,.int .i64 i9,.slice y5 p9 m5,.slice z5 t9 j5] 46
   have HW:=Lib.hid hw6
   have C6:=Lib.hid c6
   have B6:=Lib.hid b6
   clear hw6 c6 b6
   go_upto_region 9 with fail
   rw [← HW.out]
   clear HW u0 u1 u2 u3 u4
   have X16:=Lib.hid (Ext.trans hX.out B6.out)
   obtain ⟨k0,k1,k2,k3⟩:=(C1.out.ext X16.out).c4
   obtain ⟨q0,q1,q2,q3,q4⟩:=C6.out.c5
   go_upto_if 27 with (go_at_call 24;refine (HFC.out _ (Ext.trans B1.out X16.out)).mono ?_;rintro e w7 ⟨_,rfl,X7,b7,rfl,hb7⟩;have X7:=Lib.hid X7;have HB7:=Lib.hid hb7;clear hb7)
   clear k0 k1 k2 k3 q0 q1 q2 q3 q4 HFC
   have X17:=Lib.hid (Ext.trans X16.out X7.out)
   cases b7 with
   | false=>
    have HS:=Lib.hid (HSTOP.out 4 hjn (by decide))
    go_wp2_with fail
    exact hR.out _ _ (Gives.mk (Ext.trans B1.out X17.out) ⟨_,_,rfl,HS.out⟩)
   | true=>
    have HK:=Lib.hid (HB7.out rfl)
    clear HB7
    have C17:=Lib.hid (C1.out.ext X17.out)
    have C67:=Lib.hid (C6.out.ext X7.out)
    go_upto_region 11 with fail
    have hjk:j≤kl:=by have:=HNK.out;omega
    have hjk2:(j:Int)≤(kl:Int):=by omega
    have hjk3:(0:Int)≤(j:Int):=by omega
    have b8:=drew_ext w7
    have XE:=b8
    refine wp_region_noPanic ?_
    refine wp_region_held_drew (S:=fun w'=>(w'.cell? ⟨w.heap.size,0,none⟩=some (.int .i64 pR)∧w'.cell? ⟨w.heap.size,1,none⟩=some (.int .i64 pB)∧w'.cell? ⟨w.heap.size,2,none⟩=some (.slice aa na ca)∧w'.cell? ⟨w.heap.size,3,none⟩=some (.slice aq nc cq))∧(w'.cell? ⟨w4.heap.size,0,none⟩=some (.int .i64 r9)∧w'.cell? ⟨w4.heap.size,1,none⟩=some (.slice x5 c9 k5)∧w'.cell? ⟨w4.heap.size,2,none⟩=some (.int .i64 i9)∧w'.cell? ⟨w4.heap.size,3,none⟩=some (.slice y5 p9 m5)∧w'.cell? ⟨w4.heap.size,4,none⟩=some (.slice z5 t9 j5))) (by kernel_rfl) (⟨(C17.out.ext XE).c4,(C67.out.ext XE).c5⟩) (fun hHeld=>?_)
    refine tkH 0 hHeld ?_
    simp only [jP,jA,jB,jC,jD,jE,jF]
    refine tkH 1 hHeld ?_
    simp only [jP,jA,jB,jC,jD,jE,jF]
    refine tkH 2 hHeld ?_
    simp only [jP,jA,jB,jC,jD,jE,jF]
    refine tkH 3 hHeld ?_
    simp only [jP,jA,jB,jC,jD,jE,jF]
    refine tkH 4 hHeld ?_
    simp only [jP,jA,jB,jC,jD,jE,jF]
    refine rdH 5 (by kernel_rfl) rfl (fun K hK=>?_)
    go_simp
    go_at_call 25;refine (HLC.out _ (Ext.trans (Ext.trans B1.out X17.out) XE)).mono ?_;rintro e w9 ⟨v9,rfl,b9,o9⟩;have O9:=Lib.hid o9;clear o9;(first | have XE:=Ext.trans XE b9 | have XE:=Ext.trans (Ext.trans XE (Ext.alloc _ _)) b9);obtain ⟨b9,rfl,hb9⟩:=O9.out;have HB9:=Lib.hid hb9;clear hb9 O9
    go_wp2_with fail
    refine hK.out _ _ (⟨(C17.out.ext XE).c4,(C67.out.ext XE).c5⟩) (fun hHeld=>?_)
    clear hK K
    try simp only [jP,jA,jB,jC,jD,jE,jF]
    refine tkH 6 hHeld ?_
    simp only [jP,jA,jB,jC,jD,jE,jF]
    refine wpAnyH_done (by kernel_rfl) ?_ _
    refine NoPanic.normal ?_
    cases b9 with
    | false=>
     have HS:=Lib.hid (HSTOP.out 6 hjn (by decide))
     go_wp2_with fail
     exact hR.out _ _ (Gives.mk (Ext.trans (Ext.trans B1.out X17.out) XE) ⟨_,_,rfl,HS.out⟩)
    | true=>
     have HG:=Lib.hid (HJJ.out HK.out (HB9.out rfl))
     go_wp2_with fail
     go_roundw
     case rel=>exact ⟨j+1,by go_num,by omega,Ext.trans X17.out XE,HG⟩
     case measure=>simp [intOf] <;> omega
  ·obtain rfl:j=n:=by omega
   have hd:decide ((j:Int) < (j:Int))=false:=decide_eq_false (by omega)
   have HF:Hid (FollowR P L 0 0):=⟨j,by rw [HNL.out];exact Nat.le_refl _,fun _=>⟨rfl,HNL.out.symm⟩,fun h=>absurd rfl h,hP.out⟩
   clear hP
   go_wp2_with fail
   exact hR.out _ _ (Gives.mk X04.out ⟨_,_,rfl,HF.out⟩)
def CheckR (P:Pb) (L:List (Sq Rat)) (e:Int):Prop:=(e=0→(∀ j,j < L.length→JustOk P (L.map stS) j)∧∃ j,∃ h:j < L.length,L[j].1.2=[])∧(L=[]→e=7)
set_option linter.unusedSimpArgs false in
set_option maxHeartbeats 40000000 in
set_option maxRecDepth 100000 in
theorem pcheck22_any {w : World} {vp vl : Value} {p : Pq AT} {L : List (Sq Rat)} (hp : RdPq OwnA (RowT 1 IntT) w vp p) (hg : GoodP kyA (pbQ p)) (hl : RdRow 5 QnS w vl L) (hs : ∀ s ∈ L, SqOk s) (hn : L.length ≤ 60) (ht : Lib.TabIs Tryz.prog w "internal/strconv.uint64pow10" .u64 Lib.pow10Tab) :
  Calls Tryz.prog 4 #[vp,vl] w (Gives w fun v' _=>∃ i e:Int,v'=.tuple #[.int .i64 i,.int .i64 e]∧CheckR (pbQ p) L e):=by
 refine via fun R hR=>?_
 have HFO:=Lib.hid (fun w' x=>follow_any (hp.ext OwnAt.ext (fun h x=>RowT.ext h IntT.ext x) (w':=w') x) hg (hl.ext qns_ext x) hs hn (tab_ext ht x))
 obtain ⟨P,hP⟩:∃ P,pbQ p=P:=⟨_,rfl⟩
 rw [hP] at hR HFO
 clear hP hg ht
 obtain ⟨aa,ca,aq,cq,rfl,-,-⟩:=hp
 obtain ⟨al,kl,rfl,-,hml⟩:=hl.shape
 have HL:=Lib.hid hl
 obtain ⟨⟨pR,pB⟩,ats,cls⟩:=p
 dsimp only at*
 unfold maxLen at hml
 clear hl hs
 generalize ats.length=na at*
 generalize cls.length=nc at*
 obtain ⟨n,hnl⟩:∃ n,L.length=n:=⟨_,rfl⟩
 have HNL:=Lib.hid hnl
 have HN:=Lib.hid hn
 rw [hnl] at HL HN HFO ⊢
 clear hnl hn
 obtain ⟨w1,hw1,b1,c1,-,-⟩:=bx1 w [.int .i64 pR,.int .i64 pB,.slice aa na ca,.slice aq nc cq] 34
 have HW:=Lib.hid hw1
 have C1:=Lib.hid c1
 have B1:=Lib.hid b1
 clear hw1 c1 b1
 go_enter Tryz.func4,Tryz.ntmps4
 go_upto_region 1 with (fail)
 rw [← HW.out]
 clear HW
 obtain ⟨k0,k1,k2,k3⟩:=C1.out.c4
 go_upto_region 2 with (go_at_call 10;refine (HFO.out _ B1.out).mono ?_;rintro e w2 ⟨_,rfl,X2,i2,e2,rfl,h2⟩;have X2:=Lib.hid X2;have H2:=Lib.hid h2;clear h2)
 clear k0 k1 k2 k3 HFO
 by_cases he:e2=0
 ·subst he
  obtain ⟨m,hm1,hm2,-,hm3⟩:=H2.out
  have hmn:m=n:=by rw [(hm2 rfl).2,HNL.out]
  have HJ:Hid (∀ j,j < L.length→JustOk P (L.map stS) j):=fun j hj=>hm3 j (by rw [hmn,← HNL.out];exact hj)
  clear hm1 hm2 hm3 hmn m H2
  by_cases hn0:n=0
  ·subst hn0
   have HR7:Hid (CheckR P L 7):=⟨fun h=>absurd h (by decide),fun _=>rfl⟩
   go_wp2_with fail
   exact hR.out _ _ (Gives.mk (Ext.trans B1.out X2.out) ⟨_,_,rfl,HR7.out⟩)
  ·have d0:((n:Int) == 0)=false:=beq_false_of_ne (by omega)
   have d0':decide ((n:Int)=0)=false:=decide_eq_false (by omega)
   obtain ⟨m,hm⟩:∃ m,n=m+1:=⟨n - 1,by omega⟩
   have hw':IntKind.i64.wrap ((n:Int) - 1)=(m:Int):=by have:=HN.out;rw [IntKind.wrap_i64];omega
   have hw'':wrap64 ((n:Int) - 1)=(m:Int):=by have:=HN.out;unfold wrap64;omega
   have hml2:m < L.length:=by rw [HNL.out];omega
   have HJ2:(0:Int)≤(m:Int)∧(m:Int) < (n:Int):=⟨by omega,by omega⟩
   obtain ⟨bS,oS,x5,k5,y5,m5,z5,j5,hae,hbo,-,-,-⟩:=HL.out.sq m hml2
   subst hae
   obtain ⟨u0,u1,u2,u3,u4⟩:=(hbo.ext (Ext.trans B1.out X2.out)).c5
   have HLS:Hid (L≠[]):=fun h=>by have:=HNL.out;rw [h] at this;have:(0:Nat)=n:=this;omega
   have HEM:Hid (L[m].1.2.length=0→∃ j,∃ h:j < L.length,L[j].1.2=[]):=fun h=>⟨m,hml2,List.eq_nil_of_length_eq_zero h⟩
   generalize L[m].1.2.length=c9 at*
   clear hbo hm
   by_cases hc0:c9=0
   ·subst hc0
    have HR0:Hid (CheckR P L 0):=⟨fun _=>⟨HJ.out,HEM.out rfl⟩,fun h=>absurd h HLS.out⟩
    go_wp2_with fail
    exact hR.out _ _ (Gives.mk (Ext.trans B1.out X2.out) ⟨_,_,rfl,HR0.out⟩)
   ·have d1:decide ((c9:Int) > 0)=true:=decide_eq_true (by omega)
    have d1':decide ((0:Int) < (c9:Int))=true:=decide_eq_true (by omega)
    have d1'':decide (0 < c9)=true:=decide_eq_true (by omega)
    have HR7:Hid (CheckR P L 7):=⟨fun h=>absurd h (by decide),fun h=>absurd h HLS.out⟩
    go_wp2_with fail
    exact hR.out _ _ (Gives.mk (Ext.trans B1.out X2.out) ⟨_,_,rfl,HR7.out⟩)
 ·have d0:(e2 != 0)=true:=bneT he
  have HRE:Hid (CheckR P L e2):=⟨fun h=>absurd h he,fun h=>absurd h (by obtain ⟨_,_,_,h3,_⟩:=H2.out;exact (h3 he).2)⟩
  clear he
  go_wp2_with fail
  exact hR.out _ _ (Gives.mk (Ext.trans B1.out X2.out) ⟨_,_,rfl,HRE.out⟩)
end Go.Proofs.YtdooldpgnjmpfaaGreatDoor

namespace Go.Att
open Go.RowKit

theorem OwnEy.grown {e t e':TypeId} {B':Nat} {w w':World} {v v':Value} {l:TL} {c:Rat} {B n size:Nat} {xs:List Value} (h:OwnEy e t B w v l c) (hr:w.ownsRow B' e' size v' n xs) (h1:e≠e') (h2:t≠e') (hg:w.grownBy w' v'.ownBlock):OwnEy e t B w' v l c:=by
 obtain ⟨s,x,y,z,rfl,h3,h4⟩:=h
 refine ⟨s,x,y,z,rfl,h3.grown (fun u a h=>h.grown hr h1 hg) hr h2 hg,?_⟩
 obtain ⟨n',d',he,g1,g2⟩:=h4
 exact ⟨n',d',he,owns_grown g1 hr h1 hg,owns_grown g2 hr h1 hg⟩
def OwnBt (e t:TypeId) (w:World) (v:Value) (p:AT):Prop:=∃ s x y z,v=.agg #[s,x,y,z,.int .i64 p.2]∧OwnEy e t 0 w (.agg #[s,x,y,z]) p.1.1 p.1.2
theorem OwnBt.ext {e t:TypeId} {w w':World} {v:Value} {p:AT} (h:OwnBt e t w v p) (x:Ext w w'):OwnBt e t w' v p:=by
 obtain ⟨a,b,c,d,rfl,h⟩:=h
 exact ⟨a,b,c,d,rfl,h.ext x⟩
theorem OwnBt.op {e t:TypeId} {w:World} {v:Value} {p:AT} (h:OwnBt e t w v p):∃ a k s b m d b' m' d',v=.agg #[.slice a p.1.1.length k,.bool s,.slice b m d,.slice b' m' d',.int .i64 p.2]∧Hid (OwnEy e t 0 w (.agg #[.slice a p.1.1.length k,.bool s,.slice b m d,.slice b' m' d']) p.1.1 p.1.2):=by
 obtain ⟨s,x,y,z,rfl,h⟩:=h
 obtain ⟨a,k,s,b,m,d,b',m',d',he,-,-,h1⟩:=h.op
 simp only [Value.agg.injEq,Array.mk.injEq,List.cons.injEq,and_true] at he
 obtain ⟨rfl,rfl,rfl,rfl⟩:=he
 exact ⟨a,k,s,b,m,d,b',m',d',rfl,h1⟩
theorem cells_Bt {e t:TypeId} {w:World} {cs:List Value} {p:AT} (h:OwnBt e t w (.agg cs.toArray) p):∃ a k s b m d b' m' d',cs=[.slice a p.1.1.length k,.bool s,.slice b m d,.slice b' m' d',.int .i64 p.2]∧OwnEy e t 0 w (.agg #[.slice a p.1.1.length k,.bool s,.slice b m d,.slice b' m' d']) p.1.1 p.1.2:=by
 obtain ⟨a,k,s,b,m,d,b',m',d',he,h1⟩:=h.op
 have:cs.toArray=#[.slice a p.1.1.length k,.bool s,.slice b m d,.slice b' m' d',.int .i64 p.2]:=by simpa using he
 exact ⟨a,k,s,b,m,d,b',m',d',by simpa using congrArg Array.toList this,h1.out⟩
theorem kdBt {e t e':TypeId} (h1:e≠e') (h2:t≠e'):Kd e' (OwnBt e t):=⟨fun h X=>h.ext X,fun h hr hg=>by
 obtain ⟨a,b,c,d,rfl,h⟩:=h
 exact ⟨a,b,c,d,rfl,h.grown hr h1 h2 hg⟩,fun h u hu=>by
 obtain ⟨a,k,s,b,m,d,b',m',d',rfl,-⟩:=cells_Bt h
 simp at hu
 rcases hu with rfl | rfl | rfl | rfl | rfl <;> rfl⟩
theorem RdRow.btm {e t:TypeId} {w:World} {a:Option Addr} {n c:Nat} {l:List AT} (h:RdRow 5 (OwnBt e t) w (.slice a n c) l) (i:Nat) (hi:i < l.length):
  ∃ b off x k s y m d y' m' d',a=some ⟨b,off,none⟩∧Bo w b (off+i*5) [.slice x l[i].1.1.length k,.bool s,.slice y m d,.slice y' m' d',.int .i64 l[i].2]∧OwnEy e t 0 w (.agg #[.slice x l[i].1.1.length k,.bool s,.slice y m d,.slice y' m' d']) l[i].1.1 l[i].1.2:=by
 obtain ⟨b1,o1,cs,he,hl,hT,hc⟩:=h.at (by decide) i hi
 obtain ⟨x,k,s,y,m,d,y',m',d',rfl,h2⟩:=cells_Bt hT
 exact ⟨b1,o1,x,k,s,y,m,d,y',m',d',he,Bo.of hc,h2⟩
end Go.Att

namespace Go.Proofs.YtdooldpgnjmpfaaGreatDoor
open Go.RowKit Go.Att

abbrev OwnB9 (w:World) (v:Value) (p:AT):Prop:=OwnBt 4 186 w v p
end Go.Proofs.YtdooldpgnjmpfaaGreatDoor
