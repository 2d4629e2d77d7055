/- A group of texts: PRelu17, PSpanOwn, PRef17Own -/
import Derived.Test.YtmlhccajicmpfaaGreatSq
import Derived.Test.YtmlhccajicmpfaaGreatPartBG
import Derived.Test.YtmlhccajicmpfaaGreatPartBA
set_option maxHeartbeats 40000000
set_option maxRecDepth 100000
set_option linter.unusedSimpArgs false
namespace Go.Proofs.YtmlhccajicmpfaaGreat
open Go.RowKit Go.Att

end Go.Proofs.YtmlhccajicmpfaaGreat

namespace Go.Att
theorem OwnD.op6 {e:TypeId} {B:Nat} {w:World} {v:Value} {a b:Rat} (h:OwnD e B w v a b):∃ x y z x' y' z',v=.agg #[x,y,z,x',y',z']∧OwnQ e B w (.agg #[x,y,z]) a∧OwnQ e B w (.agg #[x',y',z']) b:=by
 obtain ⟨n,d,m,c,rfl,h1,h2,h3,h4⟩:=h
 exact ⟨_,_,_,_,_,_,rfl,⟨_,_,rfl,h1,h2⟩,⟨_,_,rfl,h3,h4⟩⟩
theorem cells_DO {e:TypeId} {B:Nat} {w:World} {cs:List Value} {a b:Rat} (h:OwnD e B w (.agg cs.toArray) a b):∃ x y z x' y' z',cs=[x,y,z,x',y',z']∧OwnQ e B w (.agg #[x,y,z]) a∧OwnQ e B w (.agg #[x',y',z']) b:=by
 obtain ⟨x,y,z,x',y',z',he,h1,h2⟩:=h.op6
 exact ⟨x,y,z,x',y',z',by simpa using he,h1,h2⟩
theorem OwnD.mk6 {e:TypeId} {B:Nat} {w:World} {x y z x' y' z':Value} {a b:Rat} (h1:OwnQ e B w (.agg #[x,y,z]) a) (h2:OwnQ e B w (.agg #[x',y',z']) b):OwnD e B w (.agg #[x,y,z,x',y',z']) a b:=by
 obtain ⟨n,d,he,k1,k2⟩:=h1
 obtain ⟨m,c,he',k3,k4⟩:=h2
 simp only [Value.agg.injEq,Array.mk.injEq,List.cons.injEq,and_true] at he he'
 obtain ⟨rfl,rfl,rfl⟩:=he
 obtain ⟨rfl,rfl,rfl⟩:=he'
 exact ⟨_,_,_,_,rfl,k1,k2,k3,k4⟩
theorem ownq_zz (e:TypeId) (w:World):OwnQ e 0 w (.agg #[.bool false,.slice none 0 0,.slice none 0 0]) 0:=by
 have h0:OwnL e 0 w (.slice none 0 0) []:=⟨⟨by simp [ints],.inl ⟨rfl,rfl⟩⟩,Fit.nil _⟩
 have h:OwnL e 0 w (.slice none 0 0) (limbs 0):=by rw [limbs_zero];exact h0
 exact ⟨_,_,rfl,h,h0⟩
end Go.Att
namespace Go.Proofs.YtmlhccajicmpfaaGreat
open Go.RowKit Go.Att

theorem max_own {w:World} {x0 x1 x2 y0 y1 y2:Value} {a b:Rat} (h1:OwnQ 156 0 w (.agg #[x0,x1,x2]) a) (h2:OwnQ 156 0 w (.agg #[y0,y1,y2]) b) (sa:Sz 10000000 a) (sb:Sz 10000000 b):
  ∃ z0 z1 z2,OwnQ 156 0 w (.agg #[z0,z1,z2]) (mx a b)∧∀ w',Ext w w'→Calls Tryz.prog 64 #[.agg #[x0,x1,x2],.agg #[y0,y1,y2]] w' (Gives w' fun v' _=>v'=.agg #[z0,z1,z2]):=by
 unfold mx
 by_cases h:0≤(a - b).num.sign
 ·rw [if_pos h]
  exact ⟨x0,x1,x2,h1,fun _ X=>by have:=rmax_val (h1.rd.ext X) (h2.rd.ext X) sa sb;rw [if_pos h] at this;exact this⟩
 rw [if_neg h]
 exact ⟨y0,y1,y2,h2,fun _ X=>by have:=rmax_val (h1.rd.ext X) (h2.rd.ext X) sa sb;rw [if_neg h] at this;exact this⟩
theorem srelu_own {w:World} {va:Value} {a b:Rat} (hp:OwnD 156 0 w va a b) (sa:Sz 10000000 a) (sb:Sz 10000000 b):
  Calls Tryz.prog 39 #[va] w (Gives w fun v' w'=>OwnD 156 0 w' v' (mx a 0) (mx b 0)):=by
 refine via fun R hR=>?_
 obtain ⟨x0,x1,x2,x3,x4,x5,rfl,h1,h2⟩:=hp.op6
 obtain ⟨p0,p1,p2,hA,hcA⟩:=max_own h1 (ownq_zz _ w) sa (Sz.zero.le dC)
 obtain ⟨q0,q1,q2,hB,hcB⟩:=max_own h2 (ownq_zz _ w) sb (Sz.zero.le dC)
 generalize mx a 0=A at*
 generalize mx b 0=B at*
 obtain ⟨an3,cn3,ad3,cd3,rfl,rfl,rfl⟩:=shape_Q hA.rd
 obtain ⟨an4,cn4,ad4,cd4,rfl,rfl,rfl⟩:=shape_Q hB.rd
 have GA:=qH hA
 have GB:=qH hB
 have HCA:=qH hcA
 have HCB:=qH hcB
 obtain ⟨w1,hw1,b1,c1,-,c2,-,r2,-,-⟩:=bx3 w [x0,x1,x2,x3,x4,x5] [.bool false,.slice none 0 0,.slice none 0 0,.bool false,.slice none 0 0,.slice none 0 0] [.bool false,.slice none 0 0,.slice none 0 0] 41 41 38
 have C1:=qH c1
 have C2:=qH c2
 have RR:Hid (Rm w1 (w.heap.size+1) 6):=r2
 have HW:=qH hw1
 clear h1 h2 sa sb c1 c2 r2 hw1 hcA hcB hA hB
 go_enter Tryz.func39,Tryz.ntmps39
 go_upto_region 2 with (fail)
 rw [← HW.out]
 clear HW
 have b2:=drew_ext w1
 have XE:=b2
 refine wp_region_noPanic ?_
 refine wp_region_held_drew (S:=fun w'=>(w'.cell? ⟨w.heap.size,0,none⟩=some (x0)∧w'.cell? ⟨w.heap.size,1,none⟩=some (x1)∧w'.cell? ⟨w.heap.size,2,none⟩=some (x2)∧w'.cell? ⟨w.heap.size,3,none⟩=some (x3)∧w'.cell? ⟨w.heap.size,4,none⟩=some (x4)∧w'.cell? ⟨w.heap.size,5,none⟩=some (x5))∧(w'.cell? ⟨w.heap.size+1+1,0,none⟩=some (.bool false)∧w'.cell? ⟨w.heap.size+1+1,1,none⟩=some (.slice none 0 0)∧w'.cell? ⟨w.heap.size+1+1,2,none⟩=some (.slice none 0 0))) kR (⟨(C1.out.ext XE).c6,(C2.out.ext XE).c3⟩) (fun hHeld=>?_)
 refine tkH 0 hHeld ?_
 simp only [jP,jJ]
 refine tkH 1 hHeld ?_
 simp only [jP,jJ]
 refine tkH 2 hHeld ?_
 simp only [jP,jJ]
 refine tkH 4 hHeld ?_
 simp only [jP,jJ]
 refine tkH 5 hHeld ?_
 simp only [jP,jJ]
 refine tkH 6 hHeld ?_
 simp only [jP,jJ]
 refine rdH 3 kR rfl (fun K hK=>?_)
 go_simp
 go_at_call 64;refine (HCA.out _ (eT b1 b2)).mono ?_;rintro e w3 ⟨_,rfl,b3,rfl⟩;(first | have XE:=eT XE b3 | have XE:=eT (eT XE (Ext.alloc _ _)) b3)
 go_wp2_with fail
 refine hK.out _ _ (⟨(C1.out.ext XE).c6,(C2.out.ext XE).c3⟩) (fun hHeld=>?_)
 clear hK K
 try simp only [jP,jJ]
 refine rdH 7 kR rfl (fun K hK=>?_)
 go_simp
 go_at_call 64;refine (HCB.out _ (eT b1 (eT b2 b3))).mono ?_;rintro e w4 ⟨_,rfl,b4,rfl⟩;(first | have XE:=eT XE b4 | have XE:=eT (eT XE (Ext.alloc _ _)) b4);obtain ⟨_,_,_,_,_,_,j0,j1,j2,j3,j4,j5,g0,g1,g2,g3,g4,g5⟩:=(RR.out.ext XE).c6
 go_wp2_with fail
 refine hK.out _ _ (⟨(C1.out.ext XE).c6,(C2.out.ext XE).c3⟩) (fun hHeld=>?_)
 clear hK K
 try simp only [jP,jJ]
 refine tkH 8 hHeld ?_
 simp only [jP,jJ]
 refine rdH 9 kR rfl (fun K hK=>?_)
 go_simp
 refine hK.out _ _ (⟨((C1.out.ext XE).put6 oM _ _ _ _ _ _).c6,((C2.out.ext XE).put6 oM _ _ _ _ _ _).c3⟩) (fun hHeld=>?_)
 clear hK K
 try simp only [jP,jJ]
 refine dnH kR ?_
 go_wp2_with fail
 refine bodyPost_ret (v:=.agg #[.bool (decide (A.num < 0)),.slice an3 (limbs A.num.natAbs).length cn3,.slice ad3 (dens A.den).length cd3,.bool (decide (B.num < 0)),.slice an4 (limbs B.num.natAbs).length cn4,.slice ad4 (dens B.den).length cd4]) (by simp [results,Tryz.results39,go_sem,j0,j1,j2,j3,j4,j5]) rfl ?_
 have xx:=put6_below (eT b1 (eT b2 (eT b3 b4))) (show w.heap.size≤w.heap.size+1 by omega) (.bool (decide (A.num < 0))) (.slice an3 (limbs A.num.natAbs).length cn3) (.slice ad3 (dens A.den).length cd3) (.bool (decide (B.num < 0))) (.slice an4 (limbs B.num.natAbs).length cn4) (.slice ad4 (dens B.den).length cd4)
 exact hR.out _ _ (Gives.mk xx (OwnD.mk6 (GA.out.ext xx) (GB.out.ext xx)))
theorem smax_own {w:World} {v:Value} {l:List (Rat × Rat)} (hv:RdRow 6 (OwnDp 156) w v l) (h0:0 < l.length) (hs:∀ p∈l,Sz 1000000 p.1∧Sz 1000000 p.2):
  Calls Tryz.prog 40 #[v] w (Gives w fun v' w'=>∃ o,v'=.tuple #[o,.bool true]∧OwnD 156 0 w' o (mxs l l[0]).1 (mxs l l[0]).2):=by
 refine via fun R hR=>?_
 have HS:=qH hs
 obtain ⟨a,c,rfl,hlc,hcm⟩:=hv.shape
 have HV:=qH hv
 unfold maxLen at hcm
 obtain ⟨b,off,cs,rfl,hcl,hT,hc⟩:=hv.at dC 0 h0
 obtain ⟨z0,z1,z2,z3,z4,z5,rfl,hz1,hz2⟩:=cells_DO hT
 have HZ:Hid (OwnD 156 0 w (.agg #[z0,z1,z2,z3,z4,z5]) l[0].1 l[0].2):=hT
 obtain ⟨_,_,_,_,_,_,_,rfl,rfl,rfl⟩:=RdQ.op3 (OwnQ.rd hz1)
 obtain ⟨_,_,_,_,_,_,_,rfl,rfl,rfl⟩:=RdQ.op3 (OwnQ.rd hz2)
 obtain ⟨w1,hw1,b1,-,r1,-⟩:=bx1 w [.bool false,.slice none 0 0,.slice none 0 0,.bool false,.slice none 0 0,.slice none 0 0] 41
 have HW:=qH hw1
 have R1:Hid (Rm w1 w.heap.size 6):=r1
 have e0:=Ext.cell b1 (hc 0 dC)
 have e1:=Ext.cell b1 (hc 1 dC)
 have e2:=Ext.cell b1 (hc 2 dC)
 have e3:=Ext.cell b1 (hc 3 dC)
 have e4:=Ext.cell b1 (hc 4 dC)
 have e5:=Ext.cell b1 (hc 5 dC)
 simp only [List.getElem?_cons_zero,List.getElem?_cons_succ,Nat.add_zero,Nat.zero_mul] at e0 e1 e2 e3 e4 e5
 have hne:((l.length:Int) == 0)=false:=beq_false_of_ne oM
 clear hv hs hT hz1 hz2 hc hw1 r1
 go_enter Tryz.func40,Tryz.ntmps40
 go_upto_region 3 with (fail)
 rw [← HW.out]
 clear HW
 go_wp2_with fail
 clear e0 e1 e2 e3 e4 e5
 go_loopw [16] (fun i wr=>∃ (k:Nat) (x0 x1 x2 x3 x4 x5:Value),i=.int .i64 k∧k≤l.length∧Ext w1 wr∧Hid (Bx wr w1.heap.size [x0,x1,x2,x3,x4,x5])∧Hid (Rm wr w1.heap.size 6)∧Hid (OwnD 156 0 w (.agg #[x0,x1,x2,x3,x4,x5]) (mxs (l.take k) l[0]).1 (mxs (l.take k) l[0]).2)) (fun i _=>l.length - (intOf i).toNat)
 case atStart=>exact ⟨0,_,_,_,_,_,_,rfl,Nat.zero_le _,Ext.alloc _ _,Bx.new w1 [_,_,_,_,_,_] _,Rm.new w1 [_,_,_,_,_,_] _,by rw [List.take_zero];exact HZ.out⟩
 case round=>
  obtain ⟨k,x0,x1,x2,x3,x4,x5,rfl,hk,hx,hB,hM,hD⟩:=hrel
  have b2:=hx
  generalize wr=w2 at*
  have hsz:=hx.size
  by_cases hlt:k < l.length
  ·obtain ⟨b',off',cs,hb',hcl,hT,hc⟩:=HV.out.at dC k hlt
   simp only [Option.some.injEq,Addr.mk.injEq,and_true] at hb'
   obtain ⟨rfl,rfl⟩:=hb'
   obtain ⟨y0,y1,y2,y3,y4,y5,rfl,hy1,hy2⟩:=cells_DO hT
   obtain ⟨s0,a1,n1,c1,a2,n2,c2,rfl,rfl,rfl⟩:=RdQ.op3 (OwnQ.rd hy1)
   obtain ⟨s3,a4,n4,c4,a5,n5,c5,rfl,rfl,rfl⟩:=RdQ.op3 (OwnQ.rd hy2)
   obtain ⟨s1,s2⟩:=HS.out l[k] (List.getElem_mem hlt)
   obtain ⟨r1,r2⟩:=mxs_all (Sz 1000000) (l.take k) l[0] (HS.out _ (List.getElem_mem h0)) (fun _ h=>HS.out _ (List.mem_of_mem_take h))
   have HK:=qH (mxs_take hlt l[0])
   generalize mxs (l.take k) l[0]=m at*
   generalize l[k]=y at*
   obtain ⟨p0,p1,p2,hA,hcA⟩:=max_own (OwnD.fstQ hD.out) hy1 (r1.le dC) (s1.le dC)
   obtain ⟨q0,q1,q2,hB',hcB⟩:=max_own (OwnD.sndQ hD.out) hy2 (r2.le dC) (s2.le dC)
   have HA:=qH hA
   have HB:=qH hB'
   have HCA:=qH hcA
   have HCB:=qH hcB
   obtain ⟨_,_,_,_,_,_,_,rfl,rfl,rfl⟩:=RdQ.op3 hA.rd
   obtain ⟨_,_,_,_,_,_,_,rfl,rfl,rfl⟩:=RdQ.op3 hB'.rd
   have b02:=eT b1 b2
   have e0:=Ext.cell b02 (hc 0 dC)
   have e1:=Ext.cell b02 (hc 1 dC)
   have e2:=Ext.cell b02 (hc 2 dC)
   have e3:=Ext.cell b02 (hc 3 dC)
   have e4:=Ext.cell b02 (hc 4 dC)
   have e5:=Ext.cell b02 (hc 5 dC)
   simp only [List.getElem?_cons_zero,List.getElem?_cons_succ,Nat.add_zero] at e0 e1 e2 e3 e4 e5
   obtain ⟨w3,hw3,b3,c3,-,-⟩:=bx1 w2 [.bool s0,.slice a1 n1 c1,.slice a2 n2 c2,.bool s3,.slice a4 n4 c4,.slice a5 n5 c5] 41
   have HW:=qH hw3
   have C3:=qH c3
   have CM:=qH (hB.out.ext b3)
   have RM:=qH (hM.out.ext b3)
   clear hT hc hy1 hy2 s1 s2 r1 r2 hA hB' hcA hcB hw3 c3 hB hM
   go_upto_region 7 with (fail)
   rw [← HW.out]
   clear HW e0 e1 e2 e3 e4 e5 hcl
   generalize Value.bool s0=y0 at*
   generalize Value.slice a1 n1 c1=y1 at*
   generalize Value.slice a2 n2 c2=y2 at*
   generalize Value.bool s3=y3 at*
   generalize Value.slice a4 n4 c4=y4 at*
   generalize Value.slice a5 n5 c5=y5 at*
   have b4:=drew_ext w3
   have XE:=b4
   refine wp_region_noPanic ?_
   refine wp_region_last_drew (st:=11) (S:=fun w'=>(w'.cell? ⟨w1.heap.size,0,none⟩=some (x0)∧w'.cell? ⟨w1.heap.size,1,none⟩=some (x1)∧w'.cell? ⟨w1.heap.size,2,none⟩=some (x2)∧w'.cell? ⟨w1.heap.size,3,none⟩=some (x3)∧w'.cell? ⟨w1.heap.size,4,none⟩=some (x4)∧w'.cell? ⟨w1.heap.size,5,none⟩=some (x5))∧(w'.cell? ⟨w2.heap.size,0,none⟩=some (y0)∧w'.cell? ⟨w2.heap.size,1,none⟩=some (y1)∧w'.cell? ⟨w2.heap.size,2,none⟩=some (y2)∧w'.cell? ⟨w2.heap.size,3,none⟩=some (y3)∧w'.cell? ⟨w2.heap.size,4,none⟩=some (y4)∧w'.cell? ⟨w2.heap.size,5,none⟩=some (y5))) kR (⟨(CM.out.ext XE).c6,(C3.out.ext XE).c6⟩) (fun hHeld=>?_)
   refine tkL 0 hHeld ?_
   simp only [jP,jJ]
   refine tkL 1 hHeld ?_
   simp only [jP,jJ]
   refine tkL 2 hHeld ?_
   simp only [jP,jJ]
   refine tkL 3 hHeld ?_
   simp only [jP,jJ]
   refine tkL 5 hHeld ?_
   simp only [jP,jJ]
   refine tkL 6 hHeld ?_
   simp only [jP,jJ]
   refine tkL 7 hHeld ?_
   simp only [jP,jJ]
   refine tkL 8 hHeld ?_
   simp only [jP,jJ]
   refine rdL 4 kR rfl (fun K hK=>?_)
   go_simp
   go_at_call 64;refine (HCA.out _ (eT b02 (eT b3 XE))).mono ?_;rintro e w5 ⟨_,rfl,b5,rfl⟩;(first | have XE:=eT XE b5 | have XE:=eT (eT XE (Ext.alloc _ _)) b5)
   go_wp2_with fail
   refine hK.out _ _ (⟨(CM.out.ext XE).c6,(C3.out.ext XE).c6⟩) (fun hHeld=>?_)
   clear hK K
   try simp only [jP,jJ]
   refine rdL 9 kR rfl (fun K hK=>?_)
   go_simp
   go_at_call 64;refine (HCB.out _ (eT b02 (eT b3 XE))).mono ?_;rintro e w6 ⟨_,rfl,b6,rfl⟩;(first | have XE:=eT XE b6 | have XE:=eT (eT XE (Ext.alloc _ _)) b6)
   go_wp2_with fail
   refine hK.out _ _ (⟨(CM.out.ext XE).c6,(C3.out.ext XE).c6⟩) (fun hHeld=>?_)
   clear hK K
   try simp only [jP,jJ]
   refine tkL 10 hHeld ?_
   simp only [jP,jJ]
   obtain ⟨_,_,_,_,_,_,j0,j1,j2,j3,j4,j5,g0,g1,g2,g3,g4,g5⟩:=(RM.out.ext XE).c6
   refine wpAnyL_ready (rs:=[11]) kR (by simp) ?_
   refine AllReadyL.last (o:=_) rfl (fun K hK=>?_)
   go_simp
   refine hK.out _ _ ?_
   clear hK K
   try simp only [jP,jJ]
   refine wpAnyL_done kR ?_ _
   refine NoPanic.normal ?_
   go_wp2_with fail
   go_roundw
   case rel=>
    have X:=eT b3 XE
    exact ⟨k+1,_,_,_,_,_,_,by go_num,by omega,put6_below (eT b2 X) (Nat.le_refl _) _ _ _ _ _ _,(Bx.putL_at (RM.out.ext XE) [_,_,_,_,_,_] rfl).1,(Bx.putL_at (RM.out.ext XE) [_,_,_,_,_,_] rfl).2,by rw [HK.out];exact OwnD.mk6 HA.out HB.out⟩
   simp [intOf]<;>omega
  obtain rfl:k=l.length:=by omega
  have HX:Hid (mxs (l.take l.length) l[0]=mxs l l[0]):=by show _=_;rw [List.take_length]
  obtain ⟨k0,k1,k2,k3,k4,k5⟩:=hB.out.c6
  obtain ⟨s0,a1,n1,c1,a2,n2,c2,s3,a4,n4,c4,a5,n5,c5,hsh,-⟩:=RdD.op (OwnD.rd hD.out)
  simp only [Value.agg.injEq,Array.mk.injEq,List.cons.injEq,and_true] at hsh
  obtain ⟨rfl,rfl,rfl,rfl,rfl,rfl⟩:=hsh
  obtain ⟨_,_,_,_,_,_,j0,j1,j2,j3,j4,j5,g0,g1,g2,g3,g4,g5⟩:=(R1.out.ext hx).c6
  go_wp2_with fail
  refine bodyPost_ret (v:=.tuple #[.agg #[.bool s0,.slice a1 n1 c1,.slice a2 n2 c2,.bool s3,.slice a4 n4 c4,.slice a5 n5 c5],.bool true]) (by simp [results,Tryz.results40,go_sem,j0,j1,j2,j3,j4,j5]) rfl ?_
  exact hR.out _ _ (Gives.mk (put6_below (eT b1 b2) (Nat.le_refl _) _ _ _ _ _ _) ⟨_,rfl,by rw [← HX.out];exact hD.out.ext (put6_below (eT b1 b2) (Nat.le_refl _) _ _ _ _ _ _)⟩)
end Go.Proofs.YtmlhccajicmpfaaGreat

namespace Go.Att
theorem OwnE.mk6 {e:TypeId} {B:Nat} {w:World} {x y z x' y' z':Value} {a b:Rat} (h1:OwnP e B w (.agg #[x,y,z]) a) (h2:OwnP e B w (.agg #[x',y',z']) b):OwnE e B w (.agg #[x,y,z,x',y',z']) a b:=by
 obtain ⟨n,d,he,k1,k2⟩:=h1
 obtain ⟨m,c,he',k3,k4⟩:=h2
 simp only [Value.agg.injEq,Array.mk.injEq,List.cons.injEq,and_true] at he he'
 obtain ⟨rfl,rfl,rfl⟩:=he
 obtain ⟨rfl,rfl,rfl⟩:=he'
 exact ⟨_,_,_,_,rfl,k1,k2,k3,k4⟩
end Go.Att
namespace Go.Proofs.YtmlhccajicmpfaaGreat
open Go.RowKit Go.Att

end Go.Proofs.YtmlhccajicmpfaaGreat
