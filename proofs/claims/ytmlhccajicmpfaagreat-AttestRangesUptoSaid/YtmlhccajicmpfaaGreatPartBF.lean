/- A group of texts: PSpan2, PTold17, PRef17 -/
import Derived.Test.YtmlhccajicmpfaaGreatSq
import Derived.Test.YtmlhccajicmpfaaGreatPSpan
import Derived.Test.YtmlhccajicmpfaaGreatPartAJ
import Derived.Test.YtmlhccajicmpfaaGreatPartAC
import Derived.Test.YtmlhccajicmpfaaGreatPartBB
import Derived.Test.YtmlhccajicmpfaaGreatPartAD
import Derived.Test.YtmlhccajicmpfaaGreatPartBA
set_option maxHeartbeats 40000000
set_option maxRecDepth 100000
set_option linter.unusedSimpArgs false
namespace Go.Proofs.YtmlhccajicmpfaaGreat
open Go.RowKit Go.Att

theorem sadd_any {w:World} {va vb:Value} {a b c d:Rat} (hp:RdD w va a b) (hq:RdD w vb c d) (sa:Sz 10000000 a) (sb:Sz 10000000 b) (sc:Sz 10000000 c) (sd:Sz 10000000 d):
  Calls Tryz.prog 62 #[va,vb] w (Gives w fun v' w'=>OwnD 156 w.heap.size w' v' (a+c) (b+d)):=by
 refine via fun R hR=>?_
 generalize hr:a+c=r at hR
 generalize hs:b+d=s at hR
 have HRR:=qH hr
 have HSS:=qH hs
 obtain ⟨x0,x1,x2,x3,x4,x5,rfl,h1,h2⟩:=hp
 obtain ⟨y0,y1,y2,y3,y4,y5,rfl,h3,h4⟩:=hq
 have HA:=qH h1
 have HB:=qH h2
 have HC:=qH h3
 have HD:=qH h4
 have SA:=qH sa
 have SB:=qH sb
 have SC:=qH sc
 have SD:=qH sd
 obtain ⟨w1,hw1,b1,c1,c2,-,-,-,r3,-⟩:=bx3 w [x0,x1,x2,x3,x4,x5] [y0,y1,y2,y3,y4,y5] [.bool false,.slice none 0 0,.slice none 0 0,.bool false,.slice none 0 0,.slice none 0 0] 41 41 41
 have C1:=qH c1
 have C2:=qH c2
 have RR:Hid (Rm w1 (w.heap.size+1+1) 6):=r3
 have HW:=qH hw1
 clear h1 h2 h3 h4 sa sb sc sd c1 c2 r3 hw1 hr hs
 go_enter Tryz.func62,Tryz.ntmps62
 go_upto_region 1 with (fail)
 rw [← HW.out]
 clear HW
 have b2:=drew_ext w1
 have XE:=b2
 refine wp_region_noPanic ?_
 refine wp_region_held_drew (S:=fun w'=>(w'.cell? ⟨w.heap.size,0,none⟩=some (x0)∧w'.cell? ⟨w.heap.size,1,none⟩=some (x1)∧w'.cell? ⟨w.heap.size,2,none⟩=some (x2)∧w'.cell? ⟨w.heap.size,3,none⟩=some (x3)∧w'.cell? ⟨w.heap.size,4,none⟩=some (x4)∧w'.cell? ⟨w.heap.size,5,none⟩=some (x5))∧(w'.cell? ⟨w.heap.size+1,0,none⟩=some (y0)∧w'.cell? ⟨w.heap.size+1,1,none⟩=some (y1)∧w'.cell? ⟨w.heap.size+1,2,none⟩=some (y2)∧w'.cell? ⟨w.heap.size+1,3,none⟩=some (y3)∧w'.cell? ⟨w.heap.size+1,4,none⟩=some (y4)∧w'.cell? ⟨w.heap.size+1,5,none⟩=some (y5))) kR (⟨(C1.out.ext XE).c6,(C2.out.ext XE).c6⟩) (fun hHeld=>?_)
 refine tkH 0 hHeld ?_
 simp only [jP,jJ]
 refine tkH 1 hHeld ?_
 simp only [jP,jJ]
 refine tkH 2 hHeld ?_
 simp only [jP,jJ]
 refine tkH 3 hHeld ?_
 simp only [jP,jJ]
 refine tkH 5 hHeld ?_
 simp only [jP,jJ]
 refine tkH 6 hHeld ?_
 simp only [jP,jJ]
 refine tkH 7 hHeld ?_
 simp only [jP,jJ]
 refine tkH 8 hHeld ?_
 simp only [jP,jJ]
 refine rdH 4 kR rfl (fun K hK=>?_)
 go_simp
 go_at_call 65;refine (HRR.out ▸ radd_any (HA.out.ext (eT b1 b2)) (HC.out.ext (eT b1 b2)) SA.out SC.out).mono ?_;rintro e w3 ⟨_,rfl,b3,n3,d3,rfl,on3,od3⟩;have ON3:=qH on3;have OD3:=qH od3;clear on3 od3;obtain ⟨an3,cn3,rfl,-,-,-,-⟩:=ON3.out.rd.1.shape;obtain ⟨ad3,cd3,rfl,-,-,-,-⟩:=OD3.out.rd.1.shape;(first | have XE:=eT XE b3 | have XE:=eT (eT XE (Ext.alloc _ _)) b3)
 go_wp2_with fail
 refine hK.out _ _ (⟨(C1.out.ext XE).c6,(C2.out.ext XE).c6⟩) (fun hHeld=>?_)
 clear hK K
 try simp only [jP,jJ]
 refine rdH 9 kR rfl (fun K hK=>?_)
 go_simp
 go_at_call 65;refine (HSS.out ▸ radd_any (HB.out.ext (eT b1 (eT b2 b3))) (HD.out.ext (eT b1 (eT b2 b3))) SB.out SD.out).mono ?_;rintro e w4 ⟨_,rfl,b4,n4,d4,rfl,on4,od4⟩;have ON4:=qH on4;have OD4:=qH od4;clear on4 od4;obtain ⟨an4,cn4,rfl,-,-,-,-⟩:=ON4.out.rd.1.shape;obtain ⟨ad4,cd4,rfl,-,-,-,-⟩:=OD4.out.rd.1.shape;(first | have XE:=eT XE b4 | have XE:=eT (eT XE (Ext.alloc _ _)) b4);obtain ⟨_,_,_,_,_,_,j0,j1,j2,j3,j4,j5,g0,g1,g2,g3,g4,g5⟩:=(RR.out.ext XE).c6
 go_wp2_with fail
 refine hK.out _ _ (⟨(C1.out.ext XE).c6,(C2.out.ext XE).c6⟩) (fun hHeld=>?_)
 clear hK K
 try simp only [jP,jJ]
 refine tkH 10 hHeld ?_
 simp only [jP,jJ]
 refine rdH 11 kR rfl (fun K hK=>?_)
 go_simp
 refine hK.out _ _ (⟨((C1.out.ext XE).put6 oM _ _ _ _ _ _).c6,((C2.out.ext XE).put6 oM _ _ _ _ _ _).c6⟩) (fun hHeld=>?_)
 clear hK K
 try simp only [jP,jJ]
 refine dnH kR ?_
 go_wp2_with fail
 refine bodyPost_ret (v:=.agg #[.bool (decide (r.num < 0)),.slice an3 (limbs r.num.natAbs).length cn3,.slice ad3 (dens r.den).length cd3,.bool (decide (s.num < 0)),.slice an4 (limbs s.num.natAbs).length cn4,.slice ad4 (dens s.den).length cd4]) (by simp [results,Tryz.results62,go_sem,j0,j1,j2,j3,j4,j5]) rfl ?_
 have hz:=qH (Below.size (eT b2 b3))
 have hs:=qH RR.out.lt
 have hdr:w1.drew.heap.size=w1.heap.size:=rfl
 exact hR.out _ _ (Gives.mk (put6_below (eT b1 (eT b2 (eT b3 b4))) (by have:=hz.out;omega) _ _ _ _ _ _) ⟨_,_,_,_,rfl,(ON3.out.put6 b4 (by have:=hz.out;have:=hs.out;omega) _ _ _ _ _ _).mono (by have:=hz.out;have:=hs.out;omega),(OD3.out.put6 b4 (by have:=hz.out;have:=hs.out;omega) _ _ _ _ _ _).mono (by have:=hz.out;have:=hs.out;omega),(ON4.out.put6 (Ext.refl _) (by have:=hz.out;have:=hs.out;omega) _ _ _ _ _ _).mono (by have:=hz.out;have:=hs.out;omega),(OD4.out.put6 (Ext.refl _) (by have:=hz.out;have:=hs.out;omega) _ _ _ _ _ _).mono (by have:=hz.out;have:=hs.out;omega)⟩)


theorem scheck_any {w:World} {va:Value} {a b:Rat} (hp:RdD w va a b) (sa:Sz 10000000 a) (sb:Sz 10000000 b):
  Calls Tryz.prog 37 #[va] w (Gives w fun v' _=>v'=.bool (decide ((a - b).num.sign≤0))):=by
 refine via fun R hR=>?_
 obtain ⟨x0,x1,x2,x3,x4,x5,rfl,h1,h2⟩:=hp
 have HA:=qH h1
 have HB:=qH h2
 have SA:=qH sa
 have SB:=qH sb
 obtain ⟨w1,hw1,b1,c1,-,-⟩:=bx1 w [x0,x1,x2,x3,x4,x5] 41
 have HW:=qH hw1
 obtain ⟨k0,k1,k2,k3,k4,k5⟩:=c1.c6
 clear h1 h2 sa sb c1 hw1
 go_enter Tryz.func37,Tryz.ntmps37
 go_upto_region 1 with (fail)
 rw [← HW.out]
 clear HW
 go_wp2_with fail
 clear k0 k1 k2 k3 k4 k5
 refine (rcmp_any (HA.out.ext b1) (HB.out.ext b1) SA.out SB.out).mono ?_
 rintro e w2 ⟨_,rfl,b2,rfl⟩
 generalize (a - b).num.sign=t at*
 go_wp2_with fail
 exact hR.out _ _ (Gives.mk (eT b1 b2) rfl)

theorem shas_any {w:World} {va vb:Value} {a b q:Rat} (hp:RdD w va a b) (hq:RdQ w vb q) (sa:Sz 10000000 a) (sb:Sz 10000000 b) (sq:Sz 10000000 q):
  Calls Tryz.prog 18 #[va,vb] w (Gives w fun v' _=>v'=.bool (decide ((a - q).num.sign≤0) && decide ((q - b).num.sign≤0))):=by
 refine via fun R hR=>?_
 obtain ⟨x0,x1,x2,x3,x4,x5,rfl,h1,h2⟩:=hp
 have HQ:=qH hq
 obtain ⟨y1,y2,rfl,-,-⟩:=hq
 have HA:=qH h1
 have HB:=qH h2
 have SA:=qH sa
 have SB:=qH sb
 have SQ:=qH sq
 obtain ⟨w1,hw1,b1,c1,c2,-,-,-⟩:=bx2 w [x0,x1,x2,x3,x4,x5] [.bool (decide (q.num < 0)),y1,y2] 41 38
 have C1:=qH c1
 have C2:=qH c2
 have HW:=qH hw1
 obtain ⟨k0,k1,k2,k3,k4,k5⟩:=c1.c6
 obtain ⟨l0,l1,l2⟩:=c2.c3
 clear h1 h2 sa sb sq c1 c2 hw1
 go_enter Tryz.func18,Tryz.ntmps18
 go_upto_region 1 with (fail)
 rw [← HW.out]
 clear HW
 go_wp2_with fail
 clear k0 k1 k2 k3 k4 k5 l0 l1 l2
 refine (rcmp_any (HA.out.ext b1) (HQ.out.ext b1) SA.out SQ.out).mono ?_
 rintro e w2 ⟨_,rfl,b2,rfl⟩
 generalize (a - q).num.sign=t at*
 by_cases h:t≤0
 ·have ht:decide (t≤0)=true:=decide_eq_true h
  rw [ht,Bool.true_and] at hR
  clear h
  obtain ⟨k0,k1,k2,k3,k4,k5⟩:=(C1.out.ext b2).c6
  obtain ⟨l0,l1,l2⟩:=(C2.out.ext b2).c3
  go_wp2_with fail
  clear k0 k1 k2 k3 k4 k5 l0 l1 l2
  refine (rcmp_any (HQ.out.ext (eT b1 b2)) (HB.out.ext (eT b1 b2)) SQ.out SB.out).mono ?_
  rintro e w3 ⟨_,rfl,b3,rfl⟩
  generalize (q - b).num.sign=u at*
  go_wp2_with fail
  exact hR.out _ _ (Gives.mk (eT b1 (eT b2 b3)) rfl)
 have ht:decide (t≤0)=false:=decide_eq_false h
 rw [ht,Bool.false_and] at hR
 clear h
 go_wp2_with fail
 exact hR.out _ _ (Gives.mk (eT b1 b2) rfl)

def phs (a b:Rat):Int:=if 0≤a.num.sign then 1 else if b.num.sign≤0 then -1 else 0
theorem sphase_any {w:World} {va:Value} {a b:Rat} (hp:RdD w va a b):
  Calls Tryz.prog 4 #[va] w (Gives w fun v' _=>v'=.int .i64 (phs a b)):=by
 refine via fun R hR=>?_
 unfold phs at hR
 obtain ⟨x0,x1,x2,x3,x4,x5,rfl,h1,h2⟩:=hp
 have HA:=qH h1
 have HB:=qH h2
 obtain ⟨w1,hw1,b1,c1,-,-⟩:=bx1 w [x0,x1,x2,x3,x4,x5] 41
 have C1:=qH c1
 have HW:=qH hw1
 obtain ⟨k0,k1,k2,k3,k4,k5⟩:=c1.c6
 clear h1 h2 c1 hw1
 go_enter Tryz.func4,Tryz.ntmps4
 go_upto_region 1 with (fail)
 rw [← HW.out]
 clear HW
 go_wp2_with fail
 clear k0 k1 k2 k3 k4 k5
 refine (rsign_any (HA.out.ext b1)).mono ?_
 rintro e w2 ⟨_,rfl,b2,rfl⟩
 generalize a.num.sign=t at*
 by_cases h:0≤t
 ·rw [if_pos h] at hR
  have ht:decide (0≤t)=true:=decide_eq_true h
  clear h
  go_wp2_with fail
  exact hR.out _ _ (Gives.mk (eT b1 b2) rfl)
 rw [if_neg h] at hR
 have ht:decide (0≤t)=false:=decide_eq_false h
 clear h
 obtain ⟨k0,k1,k2,k3,k4,k5⟩:=(C1.out.ext b2).c6
 go_wp2_with fail
 clear k0 k1 k2 k3 k4 k5
 refine (rsign_any (HB.out.ext (eT b1 b2))).mono ?_
 rintro e w3 ⟨_,rfl,b3,rfl⟩
 generalize b.num.sign=u at*
 by_cases h:u≤0
 ·rw [if_pos h] at hR
  have hu:decide (u≤0)=true:=decide_eq_true h
  clear h
  go_wp2_with fail
  exact hR.out _ _ (Gives.mk (eT b1 (eT b2 b3)) rfl)
 rw [if_neg h] at hR
 have hu:decide (u≤0)=false:=decide_eq_false h
 clear h
 go_wp2_with fail
 exact hR.out _ _ (Gives.mk (eT b1 (eT b2 b3)) rfl)

open Go.RowKit Go.Att

open Go.RowKit Go.Att

end Go.Proofs.YtmlhccajicmpfaaGreat
