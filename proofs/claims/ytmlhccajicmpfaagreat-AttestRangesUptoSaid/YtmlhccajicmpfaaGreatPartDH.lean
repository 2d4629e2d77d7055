/- A group of texts: PInside, POf16 -/
import Derived.Test.YtmlhccajicmpfaaGreatSq
import Derived.Test.YtmlhccajicmpfaaGreatPartDC
import Derived.Test.YtmlhccajicmpfaaGreatPartDD
import Derived.Test.YtmlhccajicmpfaaGreatPartDE
import Derived.Test.YtmlhccajicmpfaaGreatPartCH
import Derived.Test.YtmlhccajicmpfaaGreatPartBB
import Derived.Test.YtmlhccajicmpfaaGreatPOf15
import Derived.Test.YtmlhccajicmpfaaGreatPSplit
import Derived.Test.YtmlhccajicmpfaaGreatPartCJ
set_option maxHeartbeats 40000000
set_option maxRecDepth 100000
set_option linter.unusedSimpArgs false
namespace Go.Proofs.YtmlhccajicmpfaaGreat
open Go.RowKit Go.Att

theorem InR.of_at:∀ {x:List (Rat × Rat)} {p:List Rat},x.length=p.length→(∀ i (h1:i < x.length) (h2:i < p.length),x[i].1≤p[i]∧p[i]≤x[i].2)→InR x p
 | [],[],_,_=>trivial
 | _ :: _,_ :: _,hl,h=>⟨h 0 (by simp) (by simp),InR.of_at (by simpa using hl) fun i h1 h2=>by
  have:=h (i+1) (by simp only [List.length_cons];omega) (by simp only [List.length_cons];omega)
  simpa using this⟩
 | [],_ :: _,hl,_=>by simp at hl
 | _ :: _,[],hl,_=>by simp at hl
theorem inside_any {w:World} {v v1:Value} {p:Pr (Rat × Rat) AT} {x:List Rat} (hv:RdPr SnD OwnA w v p) (hx:RdRow 3 QnN w v1 x) (hs:∀ s∈p.1,Sz 10000000 s.1∧Sz 10000000 s.2) (hz:∀ q∈x,Sz 10000000 q) (hn:x.length≤1000):
  Calls Tryz.prog 12 #[v,v1] w (Gives w fun v' _=>∃ b:Bool,v'=.bool b∧(b=true→InR p.1 x)):=by
 refine via fun R hR=>?_
 obtain ⟨a,c,a',c',xf,kf,rfl,hB,hA,hF⟩:=hv.op
 obtain ⟨ax,cx,rfl,-,-⟩:=hx.shape
 have HBX:=qH hB
 have HXX:=qH hx
 have HS:=qH hs
 have HZ:=qH hz
 have HN:=qH hn
 obtain ⟨w1,hw1,b1,c1,-,-⟩:=bx1 w [.slice a p.1.length c,.slice a' p.2.1.length c',.int .i64 p.2.2.k,.int .i64 p.2.2.a,.slice xf p.2.2.sub.length kf] 51
 have HW:=qH hw1
 have C1:=qH c1
 obtain ⟨j0,j1,j2,j3,j4⟩:=c1.c5
 clear hw1 c1 hv hx hB hA hF hs hz hn
 generalize p.2.2.k=fk at*
 generalize p.2.2.a=fa at*
 generalize p.2.2.sub.length=fn at*
 obtain ⟨bx,ats,fm⟩:=p
 dsimp only at*
 generalize ats.length=na at*
 obtain ⟨n,hn⟩:∃ n,x.length=n:=⟨_,rfl⟩
 have HNL:=qH hn
 rw [hn] at HN HXX ⊢
 clear hn
 obtain ⟨m,hm⟩:∃ m,bx.length=m:=⟨_,rfl⟩
 have HML:=qH hm
 rw [hm] at HBX C1 HW j0 ⊢
 clear hm
 go_enter Tryz.func12,Tryz.ntmps12
 go_upto_region 1 with (fail)
 rw [← HW.out]
 clear HW
 by_cases hnm:n=m
 ·subst hnm
  have hne:((n:Int) != (n:Int))=false:=bne_self_eq_false _
  go_wp2_with fail
  clear hne j0 j1 j2 j3 j4
  go_loopw [16] (fun t wr=>∃ j:Nat,t=.int .i64 j∧j≤n∧Hid (Ext w1 wr)∧Hid (∀ i (h1:i < bx.length) (h2:i < x.length),i < j→bx[i].1≤x[i]∧x[i]≤bx[i].2)) (fun t _=>n - (intOf t).toNat)
  case atStart=>exact ⟨0,rfl,Nat.zero_le _,Ext.refl _,fun i _ _ h=>absurd h (Nat.not_lt_zero _)⟩
  case round=>
   obtain ⟨j,rfl,hj,hX,hP⟩:=hrel
   obtain ⟨wo,hwo⟩:∃ w0:World,w0=wr:=⟨_,rfl⟩
   subst hwo
   by_cases hjn:j < n
   ·have hd:=dT ((j:Int) < (n:Int))
    have HJ2:(0:Int)≤(j:Int)∧(j:Int) < (n:Int):=⟨by omega,by omega⟩
    have HJ1:IntKind.i64.wrap ((j:Int)+1)=((j+1:Nat):Int):=by have:=HN.out;rw [IntKind.wrap_i64];omega
    have hjb:j < bx.length:=by rw [HML.out];exact hjn
    have hjx:j < x.length:=by rw [HNL.out];exact hjn
    have HBX':=HBX.out
    rw [← HML.out] at HBX'
    obtain ⟨bL,oL,s,x0,k0,m0,x1,k1,m1,t,y0,q0,r0,y1,q1,r1,hae,hbo,hq0,hq1⟩:=(HBX'.ext snd_ext (eT b1 hX.out)).sp j hjb
    subst hae
    have HXX':=HXX.out
    rw [← HNL.out] at HXX'
    obtain ⟨bV,oV,cs,hae,hcl,hT,hc⟩:=(HXX'.ext OwnQ.ext (eT b1 hX.out)).at dC j hjx
    subst hae
    obtain ⟨sv,av,lv,cv,av',lv',cv',hcs,OV⟩:=OwnQ.op hT
    have hcs':cs=[.bool sv,.slice av lv cv,.slice av' lv' cv']:=by simpa using hcs
    subst hcs'
    have CV:Hid (Bo wo bV (oV+j*3) [.bool sv,.slice av lv cv,.slice av' lv' cv']):=Bo.of hc
    have HSZ2:=qH (HS.out _ (List.getElem_mem hjb))
    have HZ2:=qH (HZ.out _ (List.getElem_mem hjx))
    have HGO:Hid (bx[j].1≤x[j]→x[j]≤bx[j].2→∀ i (h1:i < bx.length) (h2:i < x.length),i < j+1→bx[i].1≤x[i]∧x[i]≤bx[i].2):=fun g1 g2 i h1 h2 hi=>by
     by_cases he:i=j
     ·subst he;exact ⟨g1,g2⟩
     exact hP.out i h1 h2 oM
    obtain ⟨e,he⟩:∃ e,bx[j]=e:=⟨_,rfl⟩
    obtain ⟨u,hu⟩:∃ u,x[j]=u:=⟨_,rfl⟩
    rw [he] at hq0 hq1 HSZ2 HGO
    rw [hu] at HZ2 HGO OV
    clear he hu hT hc hcs hjb hjx HBX' HXX' hcl hP
    obtain ⟨u0,u1,u2,u3,u4,u5⟩:=hbo.c6
    obtain ⟨w4,hw4,b4,c4,-,-⟩:=bx1 wo [.bool s,.slice x0 k0 m0,.slice x1 k1 m1,.bool t,.slice y0 q0 r0,.slice y1 q1 r1] 74
    have HW:=qH hw4
    have C4:=qH c4
    have CV4:=qH (CV.out.ext b4)
    have HC1:Hid (∀ w',Ext w4 w'→Calls Tryz.prog 34 #[.agg #[.bool sv,.slice av lv cv,.slice av' lv' cv'],.agg #[.bool s,.slice x0 k0 m0,.slice x1 k1 m1]] w' (Gives w' fun v' _=>v'=.int .i64 (u - e.1).num.sign)):=fun w' xx=>rcmp_any (OV.out.ext (eT b4 xx)).rd (hq0.ext (eT b4 xx)).rd HZ2.out HSZ2.out.1
    have HC2:Hid (∀ w',Ext w4 w'→Calls Tryz.prog 34 #[.agg #[.bool sv,.slice av lv cv,.slice av' lv' cv'],.agg #[.bool t,.slice y0 q0 r0,.slice y1 q1 r1]] w' (Gives w' fun v' _=>v'=.int .i64 (u - e.2).num.sign)):=fun w' xx=>rcmp_any (OV.out.ext (eT b4 xx)).rd (hq1.ext (eT b4 xx)).rd HZ2.out HSZ2.out.2
    have X4:=qH (eT hX.out b4)
    have HG1:Hid (¬ (u - e.1).num.sign < 0→e.1≤u):=fun h=>by
     rcases (Rat.le_total:e.1≤u∨u≤e.1) with h1 | h1
     ·exact h1
     rcases Classical.em (u=e.1) with h2 | h2
     ·rw [h2];exact Rat.le_refl
     exact absurd (sglt.2 (by grind)) h
    have HG2:Hid (¬ 0 < (u - e.2).num.sign→u≤e.2):=fun h=>by
     rcases (Rat.le_total:u≤e.2∨e.2≤u) with h1 | h1
     ·exact h1
     rcases Classical.em (u=e.2) with h2 | h2
     ·rw [h2];exact Rat.le_refl
     exact absurd (sggt.2 (by grind)) h
    obtain ⟨z1,hz1⟩:∃ z,(u - e.1).num.sign=z:=⟨_,rfl⟩
    obtain ⟨z2,hz2⟩:∃ z,(u - e.2).num.sign=z:=⟨_,rfl⟩
    rw [hz1] at HC1 HG1
    rw [hz2] at HC2 HG2
    clear hw4 c4 hbo hz1 hz2 HSZ2 HZ2 hq0 hq1 OV CV
    go_upto_region 6 with (fail)
    rw [← HW.out]
    clear HW u0 u1 u2 u3 u4 u5
    by_cases h1:z1 < 0
    ·have hd1:decide (z1 < 0)=true:=decide_eq_true h1
     have b5:=drew_ext w4
     have XE:=b5
     refine wp_region_noPanic ?_
     refine wp_region_held_drew (S:=fun w'=>(w'.cell? ⟨wo.heap.size,0,none⟩=some (.bool s)∧w'.cell? ⟨wo.heap.size,1,none⟩=some (.slice x0 k0 m0)∧w'.cell? ⟨wo.heap.size,2,none⟩=some (.slice x1 k1 m1)∧w'.cell? ⟨wo.heap.size,3,none⟩=some (.bool t)∧w'.cell? ⟨wo.heap.size,4,none⟩=some (.slice y0 q0 r0)∧w'.cell? ⟨wo.heap.size,5,none⟩=some (.slice y1 q1 r1))∧(w'.cell? ⟨bV,oV+j*3,none⟩=some (.bool sv)∧w'.cell? ⟨bV,oV+j*3+1,none⟩=some (.slice av lv cv)∧w'.cell? ⟨bV,oV+j*3+2,none⟩=some (.slice av' lv' cv'))) kR (⟨(C4.out.ext XE).c6,(CV4.out.ext XE).c3⟩) (fun hHeld=>?_)
     refine tkH 0 hHeld ?_
     simp only [jP,jJ]
     refine tkH 1 hHeld ?_
     simp only [jP,jJ]
     refine tkH 2 hHeld ?_
     simp only [jP,jJ]
     refine tkH 3 hHeld ?_
     simp only [jP,jJ]
     refine tkH 4 hHeld ?_
     simp only [jP,jJ]
     refine tkH 5 hHeld ?_
     simp only [jP,jJ]
     refine rdH 6 kR rfl (fun K hK=>?_)
     go_simp
     go_at_call 34;refine (HC1.out _ XE).mono ?_;rintro e w6 ⟨_,rfl,b6,rfl⟩;(first | have XE:=eT XE b6 | have XE:=eT (eT XE (Ext.alloc _ _)) b6)
     go_wp2_with fail
     refine hK.out _ _ (⟨(C4.out.ext XE).c6,(CV4.out.ext XE).c3⟩) (fun hHeld=>?_)
     clear hK K
     try simp only [jP,jJ]
     refine tkH 7 hHeld ?_
     simp only [jP,jJ]
     refine tkH 8 hHeld ?_
     simp only [jP,jJ]
     refine wpAnyH_take (i:=9) rfl kR kR kR (fun _ _ _ h=>h) (Or.inr ⟨by rfl,rfl⟩) hHeld ?_
     simp only [jP,jJ]
     refine wpAnyH_take (i:=10) rfl kR kR kR (fun _ _ _ h=>h) (Or.inr ⟨by rfl,rfl⟩) hHeld ?_
     simp only [jP,jJ]
     refine wpAnyH_take (i:=11) rfl kR kR kR (fun _ _ _ h=>h) (Or.inr ⟨by rfl,rfl⟩) hHeld ?_
     simp only [jP,jJ]
     refine wpAnyH_take (i:=12) rfl kR kR kR (fun _ _ _ h=>h) (Or.inr ⟨by rfl,rfl⟩) hHeld ?_
     simp only [jP,jJ]
     refine wpAnyH_take (i:=13) rfl kR kR kR (fun _ _ _ h=>h) (Or.inr ⟨by rfl,rfl⟩) hHeld ?_
     simp only [jP,jJ]
     refine wpAnyH_take (i:=14) rfl kR kR kR (fun _ _ _ h=>h) (Or.inr ⟨by rfl,rfl⟩) hHeld ?_
     simp only [jP,jJ]
     refine wpAnyH_take (i:=15) rfl kR kR kR (fun _ _ _ h=>h) (Or.inr ⟨by rfl,rfl⟩) hHeld ?_
     simp only [jP,jJ]
     refine wpAnyH_take (i:=16) rfl kR kR kR (fun _ _ _ h=>h) (Or.inr ⟨by rfl,rfl⟩) hHeld ?_
     simp only [jP,jJ]
     refine tkH 17 hHeld ?_
     simp only [jP,jJ]
     refine dnH kR ?_
     go_wp2_with fail
     exact hR.out _ _ (Gives.mk (eT b1 (eT X4.out XE)) ⟨false,rfl,fun h=>by cases h⟩)
    have hd1:decide (z1 < 0)=false:=decide_eq_false h1
    have b5:=drew_ext w4
    have XE:=b5
    refine wp_region_noPanic ?_
    refine wp_region_held_drew (S:=fun w'=>(w'.cell? ⟨wo.heap.size,0,none⟩=some (.bool s)∧w'.cell? ⟨wo.heap.size,1,none⟩=some (.slice x0 k0 m0)∧w'.cell? ⟨wo.heap.size,2,none⟩=some (.slice x1 k1 m1)∧w'.cell? ⟨wo.heap.size,3,none⟩=some (.bool t)∧w'.cell? ⟨wo.heap.size,4,none⟩=some (.slice y0 q0 r0)∧w'.cell? ⟨wo.heap.size,5,none⟩=some (.slice y1 q1 r1))∧(w'.cell? ⟨bV,oV+j*3,none⟩=some (.bool sv)∧w'.cell? ⟨bV,oV+j*3+1,none⟩=some (.slice av lv cv)∧w'.cell? ⟨bV,oV+j*3+2,none⟩=some (.slice av' lv' cv'))) kR (⟨(C4.out.ext XE).c6,(CV4.out.ext XE).c3⟩) (fun hHeld=>?_)
    refine tkH 0 hHeld ?_
    simp only [jP,jJ]
    refine tkH 1 hHeld ?_
    simp only [jP,jJ]
    refine tkH 2 hHeld ?_
    simp only [jP,jJ]
    refine tkH 3 hHeld ?_
    simp only [jP,jJ]
    refine tkH 4 hHeld ?_
    simp only [jP,jJ]
    refine tkH 5 hHeld ?_
    simp only [jP,jJ]
    refine rdH 6 kR rfl (fun K hK=>?_)
    go_simp
    go_at_call 34;refine (HC1.out _ XE).mono ?_;rintro e w6 ⟨_,rfl,b6,rfl⟩;(first | have XE:=eT XE b6 | have XE:=eT (eT XE (Ext.alloc _ _)) b6)
    go_wp2_with fail
    refine hK.out _ _ (⟨(C4.out.ext XE).c6,(CV4.out.ext XE).c3⟩) (fun hHeld=>?_)
    clear hK K
    try simp only [jP,jJ]
    refine tkH 7 hHeld ?_
    simp only [jP,jJ]
    refine tkH 8 hHeld ?_
    simp only [jP,jJ]
    refine tkH 9 hHeld ?_
    simp only [jP,jJ]
    refine tkH 10 hHeld ?_
    simp only [jP,jJ]
    refine tkH 11 hHeld ?_
    simp only [jP,jJ]
    refine tkH 12 hHeld ?_
    simp only [jP,jJ]
    refine tkH 13 hHeld ?_
    simp only [jP,jJ]
    refine tkH 14 hHeld ?_
    simp only [jP,jJ]
    refine rdH 15 kR rfl (fun K hK=>?_)
    go_simp
    go_at_call 34;refine (HC2.out _ XE).mono ?_;rintro e w7 ⟨_,rfl,b7,rfl⟩;(first | have XE:=eT XE b7 | have XE:=eT (eT XE (Ext.alloc _ _)) b7)
    go_wp2_with fail
    refine hK.out _ _ (⟨(C4.out.ext XE).c6,(CV4.out.ext XE).c3⟩) (fun hHeld=>?_)
    clear hK K
    try simp only [jP,jJ]
    refine tkH 16 hHeld ?_
    simp only [jP,jJ]
    refine tkH 17 hHeld ?_
    simp only [jP,jJ]
    refine dnH kR ?_
    by_cases h2:0 < z2
    ·have hd2:decide (z2 > 0)=true:=decide_eq_true h2
     have hd2':decide (0 < z2)=true:=decide_eq_true h2
     first | rw [hd2] | rw [hd2']
     go_wp2_with fail
     exact hR.out _ _ (Gives.mk (eT b1 (eT X4.out XE)) ⟨false,rfl,fun h=>by cases h⟩)
    have hd2:decide (z2 > 0)=false:=decide_eq_false h2
    have hd2':decide (0 < z2)=false:=decide_eq_false h2
    first | rw [hd2] | rw [hd2']
    have HNX:=qH (HGO.out (HG1.out h1) (HG2.out oM))
    clear h1 h2
    go_wp2_with fail
    go_roundw
    case rel=>exact ⟨j+1,by go_num,by omega,eT X4.out XE,HNX.out⟩
    simp [intOf]<;>omega
   obtain rfl:j=n:=by omega
   have hd:=dF ((j:Int) < (j:Int))
   have HIN:Hid (InR bx x):=InR.of_at (by rw [HML.out,HNL.out]) fun i h1 h2=>hP.out i h1 h2 (by rw [← HNL.out];exact h2)
   go_wp2_with fail
   exact hR.out _ _ (Gives.mk (eT b1 hX.out) ⟨true,rfl,fun _=>HIN.out⟩)
 have hne:((n:Int) != (m:Int))=true:=by simp;omega
 go_wp2_with fail
 exact hR.out _ _ (Gives.mk b1 ⟨false,rfl,fun h=>by cases h⟩)
end Go.Proofs.YtmlhccajicmpfaaGreat

namespace Go.Att
open Go.RowKit
theorem Rt.c7 {w:World} {b:Nat} {t:TypeId} (h:Rt w b 7 t):∃ x0 x1 x2 x3 x4 x5 x6,w.cell? ⟨b,0,none⟩=some x0∧w.cell? ⟨b,1,none⟩=some x1∧w.cell? ⟨b,2,none⟩=some x2∧w.cell? ⟨b,3,none⟩=some x3∧w.cell? ⟨b,4,none⟩=some x4∧w.cell? ⟨b,5,none⟩=some x5∧w.cell? ⟨b,6,none⟩=some x6∧
  w.frozen? ⟨b,0,none⟩=false∧w.frozen? ⟨b,1,none⟩=false∧w.frozen? ⟨b,2,none⟩=false∧w.frozen? ⟨b,3,none⟩=false∧w.frozen? ⟨b,4,none⟩=false∧w.frozen? ⟨b,5,none⟩=false∧w.frozen? ⟨b,6,none⟩=false:=by
 obtain ⟨x0,h0,g0⟩:=h.rm.at 0 oM
 obtain ⟨x1,h1,g1⟩:=h.rm.at 1 oM
 obtain ⟨x2,h2,g2⟩:=h.rm.at 2 oM
 obtain ⟨x3,h3,g3⟩:=h.rm.at 3 oM
 obtain ⟨x4,h4,g4⟩:=h.rm.at 4 oM
 obtain ⟨x5,h5,g5⟩:=h.rm.at 5 oM
 obtain ⟨x6,h6,g6⟩:=h.rm.at 6 oM
 exact ⟨x0,x1,x2,x3,x4,x5,x6,h0,h1,h2,h3,h4,h5,h6,g0,g1,g2,g3,g4,g5,g6⟩
theorem RdNDp.two {w:World} {x0 x1 x2 x3 x4 x5:Value} {p:NN × NN} (h:RdNDp w (.agg #[x0,x1,x2,x3,x4,x5]) p):RdNp w (.agg #[x0,x1,x2]) p.1∧RdNp w (.agg #[x3,x4,x5]) p.2:=by
 obtain ⟨a0,a1,a2,a3,a4,a5,he,h1,h2⟩:=h
 simp only [Value.agg.injEq,Array.mk.injEq,List.cons.injEq,and_true] at he
 obtain ⟨rfl,rfl,rfl,rfl,rfl,rfl⟩:=he
 exact ⟨h1,h2⟩
def OwnPr {σ α:Type} (w0:World) (S:World→Value→σ→Prop) (A:World→Value→α→Prop) (s t:TypeId) (w:World) (v:Value) (p:Pr σ α):Prop:=
 ∃ a c a' c' x k,v=.agg #[.slice a p.1.length c,.slice a' p.2.1.length c',.int .i64 p.2.2.k,.int .i64 p.2.2.a,.slice x p.2.2.sub.length k]∧OwnRow 6 S s 0 w (.slice a p.1.length c) p.1∧OwnRow 5 A t 0 w (.slice a' p.2.1.length c') p.2.1∧RdFm w0 (.agg #[.int .i64 p.2.2.k,.int .i64 p.2.2.a,.slice x p.2.2.sub.length k]) p.2.2
section
variable {σ α:Type} {w0 w w':World} {S S':World→Value→σ→Prop} {A A':World→Value→α→Prop} {s t:TypeId} {v:Value} {p:Pr σ α}
theorem OwnPr.ext (h:OwnPr w0 S A s t w v p) (hS:∀ {w w' v a},S w v a→Ext w w'→S w' v a) (hA:∀ {w w' v a},A w v a→Ext w w'→A w' v a) (x:Ext w w'):OwnPr w0 S A s t w' v p:=by
 obtain ⟨a,c,a',c',y,k,rfl,h1,h2,h3⟩:=h
 exact ⟨a,c,a',c',y,k,rfl,h1.ext hS x,h2.ext hA x,h3⟩
theorem OwnPr.rd (h:OwnPr w0 S A s t w v p) (hS:∀ v a,S w v a→S' w v a) (hA:∀ v a,A w v a→A' w v a) (x:Ext w0 w):RdPr S' A' w v p:=by
 obtain ⟨a,c,a',c',y,k,rfl,h1,h2,h3⟩:=h
 exact ⟨a,c,a',c',_,rfl,RdRow.mono h1.rd hS,RdRow.mono h2.rd hA,h3.ext x⟩
theorem OwnPr.putT {u:TypeId} {b m:Nat} (h:OwnPr w0 S A s t w v p) (hc:Rt w b m u) (h1:s≠u) (h2:t≠u) (i:Nat) (cs:List Value) (hS:∀ v a,S w v a→S (Att.putL w b i cs) v a) (hA:∀ v a,A w v a→A (Att.putL w b i cs) v a):OwnPr w0 S A s t (Att.putL w b i cs) v p:=by
 obtain ⟨a,c,a',c',y,k,rfl,g1,g2,g3⟩:=h
 exact ⟨a,c,a',c',y,k,rfl,g1.putT hc h1 i cs hS,g2.putT hc h2 i cs hA,g3⟩
theorem OwnPr.op (h:OwnPr w0 S A s t w v p):∃ a c a' c' x k,v=.agg #[.slice a p.1.length c,.slice a' p.2.1.length c',.int .i64 p.2.2.k,.int .i64 p.2.2.a,.slice x p.2.2.sub.length k]∧Hid (OwnPr w0 S A s t w (.agg #[.slice a p.1.length c,.slice a' p.2.1.length c',.int .i64 p.2.2.k,.int .i64 p.2.2.a,.slice x p.2.2.sub.length k]) p):=by
 have h0:=h
 obtain ⟨a,c,a',c',y,k,rfl,-,-,-⟩:=h
 exact ⟨a,c,a',c',y,k,rfl,h0⟩
end
section
variable {ν:Type} {T:World→Value→ν→Prop} {e r g t:TypeId} {w:World} {v:Value} {n:Nt ν}
theorem OwnNet.op2 (h:OwnNet T e r g t w v n):∃ a c,v=.agg #[.int .i64 n.1,.slice a n.2.length c]∧Hid (OwnNet T e r g t w (.agg #[.int .i64 n.1,.slice a n.2.length c]) n):=by
 have h0:=h
 obtain ⟨a,rfl,h⟩:=h
 obtain ⟨a,c,rfl,-,-⟩:=h.rd.shape
 exact ⟨a,c,rfl,h0⟩
theorem OwnNet.putT {u:TypeId} {b m:Nat} (h:OwnNet T e r g t w v n) (hc:Rt w b m u) (h0:t≠u) (h1:e≠u) (h2:r≠u) (h3:g≠u) (h4:3≠u) (i:Nat) (cs:List Value) (hT:∀ v a,T w v a→T (Att.putL w b i cs) v a):OwnNet T e r g t (Att.putL w b i cs) v n:=by
 obtain ⟨a,rfl,h⟩:=h
 exact ⟨a,rfl,h.putT hc h0 i cs fun _ _ h=>OwnLay.putT h hc h1 h2 h3 h4 i cs hT⟩
theorem OwnNet.ext {w':World} (h:OwnNet T e r g t w v n) (hT:∀ {w w' v a},T w v a→Ext w w'→T w' v a) (x:Ext w w'):OwnNet T e r g t w' v n:=by
 obtain ⟨a,rfl,h⟩:=h
 exact ⟨a,rfl,h.ext (fun h x=>OwnLay.ext h hT x) x⟩
end
end Go.Att
namespace Go.Proofs.YtmlhccajicmpfaaGreat
open Go.RowKit Go.Att

theorem etSi:ElemT Tryz.prog 48 74 (.agg #[.bool false,.slice none 0 0,.slice none 0 0,.bool false,.slice none 0 0,.slice none 0 0]) 6 112:=ElemT.mk' Tryz.underlying48 kR rfl dC
abbrev QnPr (w0 w:World) (v:Value) (p:Pr (Rat × Rat) AT):Prop:=OwnPr w0 SnD OwnA 74 144 w v p
def prQ (p:Pr (NN × NN) NAT):Pr (Rat × Rat) AT:=((p.1.take 40).map qND,(p.2.1.take 210).map atA,p.2.2)
def NltP (p:Pr (NN × NN) NAT):Prop:=(∀ s∈p.1,Nlt 1000000000 s.1∧Nlt 1000000000 s.2)∧∀ a∈p.2.1,(∀ t∈a.1.1,Nlt 1000000000 t.2)∧Nlt 1000000000 a.1.2
theorem of16_any {w0 w:World} (hx0:Ext w0 w) {v:Value} {p:Pr (NN × NN) NAT} (hv:RdPr RdNDp RdNA w0 v p) (hs:NltP p):
  Calls Tryz.prog 28 #[v] w (Gives w fun v' w'=>QnPr w0 w' v' (prQ p)):=by
 refine via fun R hR=>?_
 obtain ⟨a,c,a',c',x,k,rfl,hB,hA,hF⟩:=hv.op
 have HVB:=qH (hB.ext RdNDp.ext hx0)
 have HVA:=qH (hA.ext RdNA.ext hx0)
 have HVF:=qH hF
 have HSB:=qH hs.1
 have HSA:=qH hs.2
 unfold prQ at hR
 obtain ⟨bx,ats,fm⟩:=p
 dsimp only at*
 clear hv hs hB hA hF hx0
 obtain ⟨w1,hw1,b1,c1,-,-,-,-⟩:=bx2 w [.slice a bx.length c,.slice a' ats.length c',.int .i64 fm.k,.int .i64 fm.a,.slice x fm.sub.length k] [.slice none 0 0,.slice none 0 0,.int .i64 0,.int .i64 0,.slice none 0 0] 31 51
 have HW:=qH hw1
 have C1:=qH c1
 have R1:Hid (Rt w1 (w.heap.size+1) 5 51):=by
  show Rt _ _ _ _
  rw [hw1]
  have:=Rt.new (w.alloc (.cells #[.slice a bx.length c,.slice a' ats.length c',.int .i64 fm.k,.int .i64 fm.a,.slice x fm.sub.length k] 31)) [.slice none 0 0,.slice none 0 0,.int .i64 0,.int .i64 0,.slice none 0 0] 51
  simpa using this
 obtain ⟨j0,j1,j2,j3,j4⟩:=c1.c5
 clear hw1 c1
 have hFin:Hid (∀ w' v',QnPr w0 w' v' ((bx.take 40).map qND,(ats.take 210).map atA,fm)→Ext w w'→R (.returned v') w'):=fun w' v' h1 h2=>hR.out _ _ (Gives.mk h2 h1)
 clear hR
 generalize hfk:fm.k=fk at*
 generalize hfa:fm.a=fa at*
 generalize hfn:fm.sub.length=fn at*
 have HFK:=qH (And.intro hfk (And.intro hfa hfn))
 clear hfk hfa hfn
 go_enter Tryz.func28,Tryz.ntmps28
 go_upto_region 1 with (fail)
 rw [← HW.out]
 clear HW
 go_cut [3] (fun s3 wx=>∃ E:Nat,s3=.pointer (some ⟨E,0,none⟩)∧w1.heap.size≤E∧Ext w1 wx∧Hid (Bx wx E [.slice none 0 0,.slice none 0 0,.int .i64 fk,.int .i64 fa,.slice x fn k])∧Hid (Rt wx E 5 51))
 case first=>
  go_wp2_with fail
  go_meet
  exact ⟨_,rfl,Nat.le_refl _,Ext.alloc _ _,Bx.new w1 [_,_,_,_,_] _,Rt.new w1 [_,_,_,_,_] _⟩
 case rest=>
  obtain ⟨E,rfl,hE1,hX2,hC2,hR2⟩:=hcut
  obtain ⟨w2,hw2⟩:∃ w0:World,w0=wc:=⟨_,rfl⟩
  subst hw2
  have HE:=qH hE1
  clear hE1 j0 j1 j2 j3 j4
  go_wp2_with fail
  go_loopw [4] (fun t wr=>∃ (i:Nat) (ao:Option Addr) (ko:Nat),t=.int .i64 i∧i≤bx.length∧i≤40∧Hid (Ext w1 wr)∧Hid (Bx wr E [.slice ao i ko,.slice none 0 0,.int .i64 fk,.int .i64 fa,.slice x fn k])∧Hid (Rt wr E 5 51)∧Hid (OwnRow 6 SnD 74 w1.heap.size wr (.slice ao i ko) ((bx.take i).map qND))) (fun t _=>40 - (intOf t).toNat)
  case atStart=>exact ⟨0,none,0,rfl,Nat.zero_le _,Nat.zero_le _,hX2,hC2,hR2,by rw [List.take_zero];exact OwnRow.nil _ _ _⟩
  case round=>
   clear hC2 hR2 hX2
   obtain ⟨i,ao,ko,rfl,hi,hi40,hX,hC,hRt,hO⟩:=hrel
   obtain ⟨w3,hw3⟩:∃ w0:World,w0=wr:=⟨_,rfl⟩
   subst hw3
   have hsz3:w1.heap.size≤w3.heap.size:=Below.size hX.out
   have CP:=qH (C1.out.ext hX.out)
   obtain ⟨u0,u1,u2,u3,u4⟩:=CP.out.c5
   clear u1 u2 u3 u4
   go_upto_region 3 with (fail)
   go_cut [17] (fun s17 wx=>s17=.bool (decide (i < bx.length∧i < 40))∧w3=wx)
   case first=>
    by_cases hlt:i < bx.length
    ·have hd:=dT ((i:Int) < (bx.length:Int))
     by_cases h40:i < 40
     ·have hd4:=dT ((i:Int) < 40)
      go_wp2_with fail
      go_meet
      exact ⟨by simp [hlt,h40],rfl⟩
     have hd4:=dF ((i:Int) < 40)
     go_wp2_with fail
     go_meet
     exact ⟨by simp [h40],rfl⟩
    have hd:=dF ((i:Int) < (bx.length:Int))
    go_wp2_with fail
    go_meet
    exact ⟨by simp [hlt],rfl⟩
   case rest=>
    obtain ⟨rfl,rfl⟩:=hcut
    by_cases hb:i < bx.length∧i < 40
    ·rw [decide_eq_true hb]
     have HB40:Hid (i < 40):=hb.2
     have HJ1:IntKind.i64.wrap ((i:Int)+1)=((i+1:Nat):Int):=by rw [IntKind.wrap_i64];omega
     have HI2:(0:Int)≤(i:Int)∧(i:Int) < (bx.length:Int):=⟨by omega,by omega⟩
     obtain ⟨bB,oB,cs,hae,hcl,hT,hc⟩:=(HVB.out.ext RdNDp.ext b1).at dC i hb.1
     subst hae
     obtain ⟨x0,x1,x2,x3,x4,x5,rfl⟩:=cells_ND hT
     have CB1:Hid (Bo w1 bB (oB+i*6) [x0,x1,x2,x3,x4,x5]):=Bo.of hc
     have CB:=qH (CB1.out.ext hX.out)
     have HSN:=qH (take_map_snoc qND hb.1)
     have HSZ:=qH (HSB.out _ (List.getElem_mem hb.1))
     have HT3:=qH (RdNDp.ext hT hX.out).two
     have HQ1:Hid (∀ w',Ext w3 w'→Calls Tryz.prog 29 #[.agg #[x0,x1,x2]] w' (Gives w' fun v' w'=>OwnQ 156 0 w' v' (qND bx[i]).1)):=fun w' xx=>(of8_p (HT3.out.1.ext xx) HSZ.out.1).mono fun _ _ ⟨v,e,b,o⟩=>⟨v,e,b,o.mono (Nat.zero_le _)⟩
     have HQ2:Hid (∀ w',Ext w3 w'→Calls Tryz.prog 29 #[.agg #[x3,x4,x5]] w' (Gives w' fun v' w'=>OwnQ 156 0 w' v' (qND bx[i]).2)):=fun w' xx=>(of8_p (HT3.out.2.ext xx) HSZ.out.2).mono fun _ _ ⟨v,e,b,o⟩=>⟨v,e,b,o.mono (Nat.zero_le _)⟩
     clear hT hc hcl HT3 HSZ
     obtain ⟨q,hq⟩:∃ q,qND bx[i]=q:=⟨_,rfl⟩
     rw [hq] at HSN HQ1 HQ2
     clear hq
     obtain ⟨ol,hol⟩:∃ ol,(bx.take i).map qND=ol:=⟨_,rfl⟩
     have HSL:Hid (ol.length=i∧i≤40):=by rw [← hol,List.length_map,List.length_take];exact ⟨by omega,by omega⟩
     rw [hol] at hO HSN
     clear hol
     obtain ⟨ol2,hol2⟩:∃ ol,(bx.take (i+1)).map qND=ol:=⟨_,rfl⟩
     have HW2:Hid (ol2.length=i+1):=by show _=_;rw [← hol2,List.length_map,List.length_take];omega
     have HOE:=qH hol2
     rw [hol2] at HSN
     have HST:=qH HSN.out
     clear hol2 HSN
     go_upto_region 5 with (fail)
     clear u0
     have neS:=hO.out.ne_rt hRt.out dC
     have b4:=drew_ext w3
     have XE:=b4
     refine wp_region_noPanic ?_
     refine wp_region_cut_drew (st:=20) (S:=fun w'=>(w'.cell? ⟨E,0,none⟩=some (.slice ao i ko))∧(w'.cell? ⟨w.heap.size,0,none⟩=some (.slice (some ⟨bB,oB,none⟩) bx.length c))∧(w'.cell? ⟨bB,oB+i*6,none⟩=some (x0)∧w'.cell? ⟨bB,oB+i*6+1,none⟩=some (x1)∧w'.cell? ⟨bB,oB+i*6+2,none⟩=some (x2)∧w'.cell? ⟨bB,oB+i*6+3,none⟩=some (x3)∧w'.cell? ⟨bB,oB+i*6+4,none⟩=some (x4)∧w'.cell? ⟨bB,oB+i*6+5,none⟩=some (x5))) kR (⟨(hC.out.ext XE).c1,(CP.out.ext XE).c1,(CB.out.ext XE).c6⟩) (fun hHeld=>?_)
     refine tkT 0 [20] hHeld ?_
     simp only [jP,jJ]
     refine tkT 1 [20] hHeld ?_
     simp only [jP,jJ]
     refine tkT 2 [20] hHeld ?_
     simp only [jP,jJ]
     refine tkT 3 [20] hHeld ?_
     simp only [jP,jJ]
     refine tkT 4 [20] hHeld ?_
     simp only [jP,jJ]
     refine tkT 5 [20] hHeld ?_
     simp only [jP,jJ]
     refine tkT 6 [20] hHeld ?_
     simp only [jP,jJ]
     refine tkT 7 [20] hHeld ?_
     simp only [jP,jJ]
     refine tkT 9 [20] hHeld ?_
     simp only [jP,jJ]
     refine tkT 10 [20] hHeld ?_
     simp only [jP,jJ]
     refine tkT 11 [20] hHeld ?_
     simp only [jP,jJ]
     refine tkT 12 [20] hHeld ?_
     simp only [jP,jJ]
     refine tkT 13 [20] hHeld ?_
     simp only [jP,jJ]
     refine tkT 14 [20] hHeld ?_
     simp only [jP,jJ]
     refine rdT 8 kR rfl rF (fun K hK=>?_)
     go_simp
     go_at_call 29;refine (HQ1.out _ XE).mono ?_;rintro e w5 ⟨v5,rfl,b5,o5⟩;have O5:=qH o5;clear o5;(first | have XE:=eT XE b5 | have XE:=eT (eT XE (Ext.alloc _ _)) b5);obtain ⟨e1,e2,e3,e4,e5,e6,e7,rfl,P5⟩:=O5.out.op
     go_wp2_with fail
     refine hK.out _ _ (⟨(hC.out.ext XE).c1,(CP.out.ext XE).c1,(CB.out.ext XE).c6⟩) (fun hHeld=>?_)
     clear hK K
     try simp only [jP,jJ]
     refine rdT 15 kR rfl rF (fun K hK=>?_)
     go_simp
     go_at_call 29;refine (HQ2.out _ XE).mono ?_;rintro e w6 ⟨v6,rfl,b6,o6⟩;have O6:=qH o6;clear o6;(first | have XE:=eT XE b6 | have XE:=eT (eT XE (Ext.alloc _ _)) b6);obtain ⟨f1,f2,f3,f4,f5,f6,f7,rfl,P6⟩:=O6.out.op;have P5:=qH (OwnQ.ext P5.out b6)
     go_wp2_with fail
     refine hK.out _ _ (⟨(hC.out.ext XE).c1,(CP.out.ext XE).c1,(CB.out.ext XE).c6⟩) (fun hHeld=>?_)
     clear hK K
     try simp only [jP,jJ]
     refine tkT 16 [20] hHeld ?_
     simp only [jP,jJ]
     refine rdT 17 kR rfl rF (fun K hK=>?_)
     refine if_wantedL rfl ?_
     refine build1K etSi rF (T:=SnD) snd_ext rF [.bool e1,.slice e2 e3 e4,.slice e5 e6 e7,.bool f1,.slice f2 f3 f4,.slice f5 f6 f7] (fill_d1 ..) rfl dC (y:=q) (OwnD.mk6 P5.out P6.out) ?_
     intro g20 w20 x20 _ l20
     have XE:=eT XE x20
     have L20:=qH l20.rd
     clear l20
     refine hK.out _ _ ⟨(hC.out.ext XE).c1,(CP.out.ext XE).c1,(CB.out.ext XE).c6⟩ (fun hHeld=>?_)
     clear hK K
     try simp only [jP,jJ]
     refine rdT 18 kR rfl rF (fun K hK=>?_)
     refine if_wantedL rfl ?_
     refine append_rowG etSi (kdD (e:=156) dC) _ _ rF w1.heap.size rF (hO.out.ext snd_ext XE) rF L20.out (by have:=HSL.out;omega) (by have:=HSL.out;unfold maxLen;omega) (Nat.le_trans hsz3 (Below.size XE)) ?_
     intro v9 w9 o9 b9 g9 _
     have RO9:=qH ((hRt.out.ext XE).grow g9 neS)
     have DO9:=qH ((hC.out.ext XE).grow g9 neS)
     have XW:=qH (Below.trans hX.out (Below.trans (Below.mono XE hsz3) b9))
     have O9:Hid (OwnRow 6 SnD 74 w1.heap.size w9 v9 ol2):=(by rw [HST.out];exact o9)
     obtain ⟨a11,k11,he9,-,-⟩:=O9.out.rd.shape
     rw [HW2.out] at he9
     subst he9
     refine hK.out _ _ ⟨DO9.out.c1,(C1.out.ext XW.out).c1,(CB1.out.ext XW.out).c6⟩ (fun hHeld=>?_)
     clear hK K o9
     try simp only [jP,jJ]
     refine tkT 19 [20] hHeld ?_
     simp only [jP,jJ]
     obtain ⟨_,_,_,_,_,n0,n1,n2,n3,n4,i0,i1,i2,i3,i4⟩:=RO9.out.c5
     refine wpAnyT_ready (rs:=[20]) kR (by simp) ?_
     refine AllReadyT.cut (o:=_) rfl (fun K hK=>?_)
     go_simp
     refine hK.out _ _ ?_
     clear hK K
     try simp only [jP,jJ]
     refine wpAny_done kR ?_ _
     refine NoPanic.normal ?_
     go_wp2_with fail
     go_roundw
     case rel=>exact ⟨i+1,a11,k11,by go_num,by omega,by have:=HB40.out;omega,putL_below HE.out [_] 0 XW.out,DO9.out.setAt RO9.out 0 dC _,RO9.out.setAt 0 _,by rw [HOE.out];exact O9.out.putT RO9.out dC 0 [_] (fun _ _ h=>OwnD.putS h RO9.out dC 0 [_])⟩
     simp [intOf]<;>omega
    rw [decide_eq_false hb]
    have HTE:Hid ((bx.take i).map qND=(bx.take 40).map qND):=by
     show _=_
     by_cases h40:i=40
     ·rw [h40]
     rw [List.take_of_length_le (show bx.length≤i by omega),List.take_of_length_le (show bx.length≤40 by omega)]
    rw [HTE.out] at hO
    have HNB:Hid (((bx.take 40).map qND).length=i):=by rw [← HTE.out,List.length_map,List.length_take];show _=_;omega
    clear HTE
    obtain ⟨bl,hbl⟩:∃ bl,(bx.take 40).map qND=bl:=⟨_,rfl⟩
    rw [hbl] at hO HNB hFin
    clear hbl hb u0
    go_wp2_with fail
    go_loopw [5] (fun t wr=>∃ (j:Nat) (aa:Option Addr) (ka:Nat),t=.int .i64 j∧j≤ats.length∧j≤210∧Hid (Ext w1 wr)∧Hid (Bx wr E [.slice ao i ko,.slice aa j ka,.int .i64 fk,.int .i64 fa,.slice x fn k])∧Hid (Rt wr E 5 51)∧Hid (OwnRow 6 SnD 74 w1.heap.size wr (.slice ao i ko) bl)∧Hid (OwnRow 5 OwnA 144 w1.heap.size wr (.slice aa j ka) ((ats.take j).map atA))) (fun t _=>210 - (intOf t).toNat)
    case atStart=>exact ⟨0,none,0,rfl,Nat.zero_le _,Nat.zero_le _,hX,hC,hRt,hO,by rw [List.take_zero];exact OwnRow.nil _ _ _⟩
    case round=>
     clear hX hC hRt hO hsz3 CP
     obtain ⟨j,aa,ka,rfl,hj,hj2,hX,hC,hRt,hO,hP⟩:=hrel
     obtain ⟨w5,hw5⟩:∃ w0:World,w0=wr:=⟨_,rfl⟩
     subst hw5
     have hsz5:w1.heap.size≤w5.heap.size:=Below.size hX.out
     have CP:=qH (C1.out.ext hX.out)
     obtain ⟨u0,u1,u2,u3,u4⟩:=CP.out.c5
     clear u0 u2 u3 u4
     go_upto_region 7 with (fail)
     go_cut [48] (fun s48 wx=>s48=.bool (decide (j < ats.length∧j < 210))∧w5=wx)
     case first=>
      by_cases hlt:j < ats.length
      ·have hd:=dT ((j:Int) < (ats.length:Int))
       by_cases h40:j < 210
       ·have hd4:=dT ((j:Int) < 210)
        go_wp2_with fail
        go_meet
        exact ⟨by simp [hlt,h40],rfl⟩
       have hd4:=dF ((j:Int) < 210)
       go_wp2_with fail
       go_meet
       exact ⟨by simp [h40],rfl⟩
      have hd:=dF ((j:Int) < (ats.length:Int))
      go_wp2_with fail
      go_meet
      exact ⟨by simp [hlt],rfl⟩
     case rest=>
      obtain ⟨rfl,rfl⟩:=hcut
      by_cases hb:j < ats.length∧j < 210
      ·rw [decide_eq_true hb]
       have HB40:Hid (j < 210):=hb.2
       have HJ1:IntKind.i64.wrap ((j:Int)+1)=((j+1:Nat):Int):=by rw [IntKind.wrap_i64];omega
       have HI2:(0:Int)≤(j:Int)∧(j:Int) < (ats.length:Int):=⟨by omega,by omega⟩
       obtain ⟨bA,oA,cs,hae,hcl,hT,hc⟩:=(HVA.out.ext RdNA.ext b1).at dC j hb.1
       subst hae
       clear hcl
       obtain ⟨xa,xk,xy,xz,hcs,-⟩:=hT.op
       have hcs':cs=[.slice xa ats[j].1.1.length xk,.bool ats[j].1.2.1,xy,xz,.int .i64 ats[j].2]:=by simpa using hcs
       subst hcs'
       have CA1:Hid (Bo w1 bA (oA+j*5) [.slice xa ats[j].1.1.length xk,.bool ats[j].1.2.1,xy,xz,.int .i64 ats[j].2]):=Bo.of hc
       have CA:=qH (CA1.out.ext hX.out)
       have HSN:=qH (take_map_snoc atA hb.1)
       have HSZ:=qH (HSA.out _ (List.getElem_mem hb.1))
       have HTA:=qH (RdNA.ext hT hX.out)
       have HOF:Hid (∀ w',Ext w5 w'→Calls Tryz.prog 54 #[.agg #[.slice xa ats[j].1.1.length xk,.bool ats[j].1.2.1,xy,xz,.int .i64 ats[j].2]] w' (Gives w' fun v' w'=>OwnA w' v' (atA ats[j]))):=fun w' xx=>of9_any (HTA.out.ext xx) HSZ.out.1 HSZ.out.2
       clear hT hc HTA HSZ hcs
       obtain ⟨q,hq⟩:∃ q,atA ats[j]=q:=⟨_,rfl⟩
       rw [hq] at HSN HOF
       clear hq
       generalize ats[j].1.1.length=n1 at*
       generalize ats[j].1.2.1=s1 at*
       generalize ats[j].2=o1 at*
       obtain ⟨ol,hol⟩:∃ ol,(ats.take j).map atA=ol:=⟨_,rfl⟩
       have HSL:Hid (ol.length=j∧j≤210):=by rw [← hol,List.length_map,List.length_take];exact ⟨by omega,by omega⟩
       rw [hol] at hP HSN
       clear hol
       obtain ⟨ol2,hol2⟩:∃ ol,(ats.take (j+1)).map atA=ol:=⟨_,rfl⟩
       have HW2:Hid (ol2.length=j+1):=by show _=_;rw [← hol2,List.length_map,List.length_take];omega
       have HOE:=qH hol2
       rw [hol2] at HSN
       have HST:=qH HSN.out
       clear hol2 HSN
       go_upto_region 9 with (fail)
       clear u1
       have neS:=hP.out.ne_rt hRt.out dC
       have b6:=drew_ext w5
       have XE:=b6
       refine wp_region_noPanic ?_
       refine wp_region_cut_drew (st:=11) (S:=fun w'=>(w'.cell? ⟨E,0,none⟩=some (.slice ao i ko)∧w'.cell? ⟨E,1,none⟩=some (.slice aa j ka))∧(w'.cell? ⟨w.heap.size,0,none⟩=some (.slice a bx.length c)∧w'.cell? ⟨w.heap.size,1,none⟩=some (.slice (some ⟨bA,oA,none⟩) ats.length c'))∧(w'.cell? ⟨bA,oA+j*5,none⟩=some (.slice xa n1 xk)∧w'.cell? ⟨bA,oA+j*5+1,none⟩=some (.bool s1)∧w'.cell? ⟨bA,oA+j*5+2,none⟩=some (xy)∧w'.cell? ⟨bA,oA+j*5+3,none⟩=some (xz)∧w'.cell? ⟨bA,oA+j*5+4,none⟩=some (.int .i64 o1))) kR (⟨(hC.out.ext XE).c2,(CP.out.ext XE).c2,(CA.out.ext XE).c5⟩) (fun hHeld=>?_)
       refine tkT 0 [11] hHeld ?_
       simp only [jP,jJ]
       refine tkT 1 [11] hHeld ?_
       simp only [jP,jJ]
       refine tkT 2 [11] hHeld ?_
       simp only [jP,jJ]
       refine tkT 3 [11] hHeld ?_
       simp only [jP,jJ]
       refine tkT 4 [11] hHeld ?_
       simp only [jP,jJ]
       refine tkT 5 [11] hHeld ?_
       simp only [jP,jJ]
       refine tkT 6 [11] hHeld ?_
       simp only [jP,jJ]
       refine rdT 7 kR rfl rF (fun K hK=>?_)
       go_simp
       go_at_call 54;refine (HOF.out _ XE).mono ?_;rintro e w7 ⟨v7,rfl,b7,o7⟩;have O7:=qH o7;clear o7;(first | have XE:=eT XE b7 | have XE:=eT (eT XE (Ext.alloc _ _)) b7);obtain ⟨e1,e2,e3,e4,e5,e6,e7,e8,e9,rfl,-⟩:=O7.out.op
       go_wp2_with fail
       refine hK.out _ _ (⟨(hC.out.ext XE).c2,(CP.out.ext XE).c2,(CA.out.ext XE).c5⟩) (fun hHeld=>?_)
       clear hK K
       try simp only [jP,jJ]
       refine rdT 8 kR rfl rF (fun K hK=>?_)
       refine if_wantedL rfl ?_
       refine build1K etAt rF (T:=OwnA) OwnAt.ext rF [.slice e1 q.1.1.length e2,.bool e3,.slice e4 e5 e6,.slice e7 e8 e9,.int .i64 q.2] (fill_a1 ..) rfl dC (y:=q) O7.out ?_
       intro g20 w20 x20 _ l20
       have XE:=eT XE x20
       have L20:=qH l20.rd
       clear l20
       refine hK.out _ _ ⟨(hC.out.ext XE).c2,(CP.out.ext XE).c2,(CA.out.ext XE).c5⟩ (fun hHeld=>?_)
       clear hK K
       try simp only [jP,jJ]
       refine rdT 9 kR rfl rF (fun K hK=>?_)
       refine if_wantedL rfl ?_
       refine append_rowG etAt (kdAt dC dC) _ _ rF w1.heap.size rF (hP.out.ext OwnAt.ext XE) rF L20.out (by have:=HSL.out;omega) (by have:=HSL.out;unfold maxLen;omega) (Nat.le_trans hsz5 (Below.size XE)) ?_
       intro v9 w9 o9 b9 g9 _
       have RO9:=qH ((hRt.out.ext XE).grow g9 neS)
       have DO9:=qH ((hC.out.ext XE).grow g9 neS)
       obtain ⟨nn,xs,hown⟩:=(hP.out.ext OwnAt.ext XE).own
       have HB9:=qH (OwnRow.grown (hO.out.ext snd_ext XE) (fun _ _ h=>(kdD (e:=156) dC).grown h hown g9) hown dC g9)
       have XW:=qH (Below.trans hX.out (Below.trans (Below.mono XE hsz5) b9))
       have O9:Hid (OwnRow 5 OwnA 144 w1.heap.size w9 v9 ol2):=(by rw [HST.out];exact o9)
       obtain ⟨a11,k11,he9,-,-⟩:=O9.out.rd.shape
       rw [HW2.out] at he9
       subst he9
       refine hK.out _ _ ⟨DO9.out.c2,(C1.out.ext XW.out).c2,(CA1.out.ext XW.out).c5⟩ (fun hHeld=>?_)
       clear hK K o9 hown
       try simp only [jP,jJ]
       refine tkT 10 [11] hHeld ?_
       simp only [jP,jJ]
       obtain ⟨_,_,_,_,_,n0,n1,n2,n3,n4,i0,i1,i2,i3,i4⟩:=RO9.out.c5
       refine wpAnyT_ready (rs:=[11]) kR (by simp) ?_
       refine AllReadyT.cut (o:=_) rfl (fun K hK=>?_)
       go_simp
       refine hK.out _ _ ?_
       clear hK K
       try simp only [jP,jJ]
       refine wpAny_done kR ?_ _
       refine NoPanic.normal ?_
       go_wp2_with fail
       go_roundw
       case rel=>exact ⟨j+1,a11,k11,by go_num,by omega,by have:=HB40.out;omega,putL_below HE.out [_] 1 XW.out,DO9.out.setAt RO9.out 1 dC _,RO9.out.setAt 1 _,HB9.out.putT RO9.out dC 1 [_] (fun _ _ h=>OwnD.putS h RO9.out dC 1 [_]),by rw [HOE.out];exact O9.out.putT RO9.out dC 1 [_] (fun _ _ h=>OwnAt.putT h RO9.out dC dC 1 [_])⟩
       simp [intOf]<;>omega
      rw [decide_eq_false hb]
      have HTE:Hid ((ats.take j).map atA=(ats.take 210).map atA):=by
       show _=_
       by_cases h40:j=210
       ·rw [h40]
       rw [List.take_of_length_le (show ats.length≤j by omega),List.take_of_length_le (show ats.length≤210 by omega)]
      rw [HTE.out] at hP
      have HNA:Hid (((ats.take 210).map atA).length=j):=by rw [← HTE.out,List.length_map,List.length_take];show _=_;omega
      clear HTE
      obtain ⟨al,hal⟩:∃ al,(ats.take 210).map atA=al:=⟨_,rfl⟩
      rw [hal] at hP HNA hFin
      clear hal hb u1
      obtain ⟨q0,q1,q2,q3,q4⟩:=hC.out.c5
      obtain ⟨_,_,_,_,_,n0,n1,n2,n3,n4,i0,i1,i2,i3,i4⟩:=(R1.out.ext hX.out).c5
      go_wp2_with fail
      refine bodyPost_ret (v:=.agg #[.slice ao i ko,.slice aa j ka,.int .i64 fk,.int .i64 fa,.slice x fn k]) (by simp [results,Tryz.results28,go_sem,n0,n1,n2,n3,n4]) rfl ?_
      refine hFin.out _ _ ?_ (putL_below oM [_,_,_,_,_] 0 (eT b1 hX.out))
      have hB2:=(hO.out.mono (Nat.zero_le _)).putT (R1.out.ext hX.out) dC 0 [.slice ao i ko,.slice aa j ka,.int .i64 fk,.int .i64 fa,.slice x fn k] (fun _ _ h=>OwnD.putS h (R1.out.ext hX.out) dC 0 [_,_,_,_,_])
      have hA2:=(hP.out.mono (Nat.zero_le _)).putT (R1.out.ext hX.out) dC 0 [.slice ao i ko,.slice aa j ka,.int .i64 fk,.int .i64 fa,.slice x fn k] (fun _ _ h=>OwnAt.putT h (R1.out.ext hX.out) dC dC 0 [_,_,_,_,_])
      obtain rfl:=HNB.out
      obtain rfl:=HNA.out
      obtain ⟨h1,h2,h3⟩:=HFK.out
      have h4:=HVF.out
      subst h1 h2 h3
      exact ⟨ao,ko,aa,ka,x,k,rfl,hB2,hA2,h4⟩
theorem of19_any {w:World} {v:Value} {q:Nt NN × Pr (NN × NN) NAT} (hv:RdQy RdNp RdNDp RdNA w v q) (hl:q.1.2.length≤3∧∀ l∈q.1.2,litL l) (hn:∀ l∈q.1.2,(∀ r∈l.W,∀ p∈r,Nlt 1000000000 p)∧∀ p∈l.B,Nlt 1000000000 p) (hs:NltP q.2):
  Calls Tryz.prog 8 #[v] w (Gives w fun v' w'=>QyP w' v' (mapNet qN q.1,prQ q.2)):=by
 refine via fun R hR=>?_
 obtain ⟨a0,c0,a,c,a',c',x,k,rfl,hN,hP⟩:=hv.op2
 have HN:Hid (∀ w',Ext w w'→Calls Tryz.prog 27 #[.agg #[.int .i64 q.1.1,.slice a0 q.1.2.length c0]] w' (Gives w' fun v' w'=>QnNet w' v' (mapNet qN q.1))):=fun w' xx=>of15G_any (hN.ext RdNp.ext xx) hl hn
 have HP:Hid (∀ w',Ext w w'→Calls Tryz.prog 28 #[.agg #[.slice a q.2.1.length c,.slice a' q.2.2.1.length c',.int .i64 q.2.2.2.k,.int .i64 q.2.2.2.a,.slice x q.2.2.2.sub.length k]] w' (Gives w' fun v' w''=>QnPr w w'' v' (prQ q.2))):=fun w' xx=>of16_any xx hP hs
 obtain ⟨w1,hw1,b1,c1,-,-,-,-⟩:=bx2 w [.int .i64 q.1.1,.slice a0 q.1.2.length c0,.slice a q.2.1.length c,.slice a' q.2.2.1.length c',.int .i64 q.2.2.2.k,.int .i64 q.2.2.2.a,.slice x q.2.2.2.sub.length k] [.int .i64 0,.slice none 0 0,.slice none 0 0,.slice none 0 0,.int .i64 0,.int .i64 0,.slice none 0 0] 33 53
 have HW:=qH hw1
 have C1:=qH c1
 have R2:Hid (Rt w1 (w.heap.size+1) 7 53):=by
  show Rt _ _ _ _
  rw [hw1]
  have:=Rt.new (w.alloc (.cells #[.int .i64 q.1.1,.slice a0 q.1.2.length c0,.slice a q.2.1.length c,.slice a' q.2.2.1.length c',.int .i64 q.2.2.2.k,.int .i64 q.2.2.2.a,.slice x q.2.2.2.sub.length k] 33)) [.int .i64 0,.slice none 0 0,.slice none 0 0,.slice none 0 0,.int .i64 0,.int .i64 0,.slice none 0 0] 53
  simpa using this
 clear hw1 c1 hv hN hP hl hn hs
 generalize mapNet qN q.1=m at*
 generalize prQ q.2=pq at*
 obtain ⟨⟨z,ls⟩,bx,ats,fm⟩:=q
 dsimp only at*
 generalize ls.length=n0 at*
 generalize bx.length=nb at*
 generalize ats.length=na at*
 generalize fm.k=fk at*
 generalize fm.a=fa at*
 generalize fm.sub.length=fn at*
 go_enter Tryz.func8,Tryz.ntmps8
 go_upto_region 1 with (fail)
 rw [← HW.out]
 clear HW
 have b2:=drew_ext w1
 have XE:=b2
 refine wp_region_noPanic ?_
 refine wp_region_last_drew (st:=7) (S:=fun w'=>w'.cell? ⟨w.heap.size,0,none⟩=some (.int .i64 z)∧w'.cell? ⟨w.heap.size,1,none⟩=some (.slice a0 n0 c0)∧w'.cell? ⟨w.heap.size,2,none⟩=some (.slice a nb c)∧w'.cell? ⟨w.heap.size,3,none⟩=some (.slice a' na c')∧w'.cell? ⟨w.heap.size,4,none⟩=some (.int .i64 fk)∧w'.cell? ⟨w.heap.size,5,none⟩=some (.int .i64 fa)∧w'.cell? ⟨w.heap.size,6,none⟩=some (.slice x fn k)) kR ((C1.out.ext XE).c7) (fun hHeld=>?_)
 refine tkL 0 hHeld ?_
 simp only [jP,jJ]
 refine tkL 1 hHeld ?_
 simp only [jP,jJ]
 refine tkL 3 hHeld ?_
 simp only [jP,jJ]
 refine tkL 4 hHeld ?_
 simp only [jP,jJ]
 refine rdL 2 kR rfl (fun K hK=>?_)
 go_simp
 go_at_call 27;refine (HN.out _ (eT b1 XE)).mono ?_;rintro e w3 ⟨v3,rfl,b3,o3⟩;have O3:=qH o3;clear o3;(first | have XE:=eT XE b3 | have XE:=eT (eT XE (Ext.alloc _ _)) b3);obtain ⟨an,kn,rfl,P3⟩:=OwnNet.op2 O3.out
 go_wp2_with fail
 refine hK.out _ _ ((C1.out.ext XE).c7) (fun hHeld=>?_)
 clear hK K
 try simp only [jP,jJ]
 refine rdL 5 kR rfl (fun K hK=>?_)
 go_simp
 go_at_call 28;refine (HP.out _ (eT b1 XE)).mono ?_;rintro e w4 ⟨v4,rfl,b4,o4⟩;have O4:=qH o4;clear o4;(first | have XE:=eT XE b4 | have XE:=eT (eT XE (Ext.alloc _ _)) b4);obtain ⟨ab,kb,aa,ka,xf,kf,rfl,P4⟩:=OwnPr.op O4.out;have P3:=qH (OwnNet.ext P3.out qnn_ext b4)
 go_wp2_with fail
 refine hK.out _ _ ((C1.out.ext XE).c7) (fun hHeld=>?_)
 clear hK K
 try simp only [jP,jJ]
 refine tkL 6 hHeld ?_
 simp only [jP,jJ]
 obtain ⟨_,_,_,_,_,_,_,j0,j1,j2,j3,j4,j5,j6,i0,i1,i2,i3,i4,i5,i6⟩:=(R2.out.ext XE).c7
 refine wpAnyL_ready (rs:=[7]) kR (by simp) ?_
 refine AllReadyL.last (o:=_) rfl (fun K hK=>?_)
 go_simp
 refine hK.out _ _ ?_
 clear hK K
 try simp only [jP,jJ]
 refine wpAnyL_done kR ?_ _
 refine NoPanic.normal ?_
 go_wp2_with fail
 refine bodyPost_ret (v:=.agg #[.int .i64 m.1,.slice an m.2.length kn,.slice ab pq.1.length kb,.slice aa pq.2.1.length ka,.int .i64 pq.2.2.k,.int .i64 pq.2.2.a,.slice xf pq.2.2.sub.length kf]) (by simp [results,Tryz.results8,go_sem,j0,j1,j2,j3,j4,j5,j6]) rfl ?_
 have hxf:Ext w (Att.putL w4 (w.heap.size+1) 0 [.int .i64 m.1,.slice an m.2.length kn,.slice ab pq.1.length kb,.slice aa pq.2.1.length ka,.int .i64 pq.2.2.k,.int .i64 pq.2.2.a,.slice xf pq.2.2.sub.length kf]):=putL_below oM [.int .i64 m.1,.slice an m.2.length kn,.slice ab pq.1.length kb,.slice aa pq.2.1.length ka,.int .i64 pq.2.2.k,.int .i64 pq.2.2.a,.slice xf pq.2.2.sub.length kf] 0 (eT b1 XE)
 refine hR.out _ _ (Gives.mk hxf ⟨_,_,_,_,_,_,rfl,?_,?_⟩)
 ·exact OwnNet.rd (OwnNet.putT P3.out (R2.out.ext XE) dC dC dC dC dC 0 [_,_,_,_,_,_,_] fun _ _ h=>OwnQ.putT h (R2.out.ext XE) dC 0 [_,_,_,_,_,_,_]) fun _ _ h=>h
 exact OwnPr.rd (OwnPr.putT P4.out (R2.out.ext XE) dC dC 0 [_,_,_,_,_,_,_] (fun _ _ h=>OwnD.putS h (R2.out.ext XE) dC 0 [_,_,_,_,_,_,_]) (fun _ _ h=>OwnAt.putT h (R2.out.ext XE) dC dC 0 [_,_,_,_,_,_,_])) (fun _ _ h=>h) (fun _ _ h=>h) hxf
end Go.Proofs.YtmlhccajicmpfaaGreat
