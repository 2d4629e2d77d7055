/- A group of texts: PRelu17, PSpanOwn, PRef17Own -/
import Derived.Test.YtnbbhpihlcglgaaSq
import Derived.Test.YtnbbhpihlcglgaaWeighAll
import Derived.Test.YtnbbhpihlcglgaaRef5All
namespace Go.Proofs.Ytnbbhpihlcglgaa
open Go.RowKit Go.Att

def Sv (w:World) (c:Nat) (v:Value) (q:Rat):Prop:=RdP w v q∧∀ w',Ext w w'→∀ x y z x' y' z',RdP (put6 w' c x y z x' y' z') v q
theorem Sv.ext {w w':World} {c:Nat} {v:Value} {q:Rat} (h:Sv w c v q) (X:Ext w w'):Sv w' c v q:=⟨h.1.ext X,fun w2 Y=>h.2 w2 (X.trans Y)⟩
theorem Sv.of_rd {w0 w:World} {c:Nat} {v:Value} {q:Rat} (h:RdP w0 v q) (X:Ext w0 w) (hc:w0.heap.size≤c):Sv w c v q:=⟨h.ext X,fun _ Y _ _ _ _ _ _=>h.ext (put6_below (X.trans Y) hc _ _ _ _ _ _)⟩
theorem Sv.of_own {e:TypeId} {B:Nat} {w:World} {c:Nat} {v:Value} {q:Rat} (h:OwnP e B w v q) (hc:c < B):Sv w c v q:=by
 refine ⟨h.rd,fun w' Y x y z x' y' z'=>?_⟩
 obtain ⟨n,d,rfl,on,od⟩:=h
 exact ⟨_,_,rfl,(on.put6 Y (.inl hc) _ _ _ _ _ _).rd,(od.put6 Y (.inl hc) _ _ _ _ _ _).rd⟩
theorem Sv.shape {w:World} {c:Nat} {v:Value} {q:Rat} (h:Sv w c v q):∃ a n b d,v=.agg #[.bool (decide (q.num < 0)),.slice a (bitsOf q.num.natAbs).length n,.slice b (bitsOf q.den).length d]:=by
 obtain ⟨⟨n,d,rfl,hn,hd⟩,-⟩:=h
 obtain ⟨an,cn,rfl,-,-,-,-⟩:=hn.shape
 obtain ⟨ad,cd,rfl,-,-,-,-⟩:=hd.shape
 exact ⟨_,_,_,_,rfl⟩
theorem top_sv {w:World} {c:Nat} {va vb:Value} {p q:Rat} (hp:Sv w c va p) (hq:Sv w c vb q) (sp:Sb 50000 p) (sq:Sb 50000 q):
  Calls Try.prog 145 #[va,vb] w (Gives w fun v' w'=>Sv w' c v' (mx p q)):=by
 refine (top_val hp.1 hq.1 sp sq).mono ?_
 rintro e w' ⟨_,rfl,b,rfl⟩
 refine Gives.mk b ?_
 unfold mx
 split
 ·exact hp.ext b
 ·exact hq.ext b
set_option maxHeartbeats 1000000 in
set_option linter.unusedSimpArgs false in
theorem r17relu_any {w:World} {va:Value} {a b:Rat} (hp:RdE w va a b) (sa:Sb 50000 a) (sb:Sb 50000 b):
  Calls Try.prog 118 #[va] w (Gives w fun v' w'=>RdE w' v' (mx a 0) (mx b 0)):=by
 refine via fun R hR=>?_
 obtain ⟨x0,x1,x2,x3,x4,x5,rfl,h1,h2⟩:=hp
 have sz:Sb 50000 (0:Rat):=⟨by decide +kernel,by decide +kernel⟩
 have HA:Hid (∀ (w1 w2:World) (v:Value),Ext w w1→Sv w1 (w.heap.size+1) v 0→Calls Try.prog 145 #[.agg #[x0,x1,x2],v] w1 (Gives w1 fun v' w'=>Sv w' (w.heap.size+1) v' (mx a 0))):=
  fun w1 _ v X h=>top_sv (Sv.of_rd h1 X (by omega)) h sa sz
 have HB:Hid (∀ (w1 w2:World) (v:Value),Ext w w1→Sv w1 (w.heap.size+1) v 0→Calls Try.prog 145 #[.agg #[x3,x4,x5],v] w1 (Gives w1 fun v' w'=>Sv w' (w.heap.size+1) v' (mx b 0))):=
  fun w1 _ v X h=>top_sv (Sv.of_rd h2 X (by omega)) h sb sz
 have HI:Hid (∀ w1:World,w.heap.size+1 < w1.heap.size→Calls Try.prog 41 #[.int .i64 0] w1 (Gives w1 fun v' w'=>Sv w' (w.heap.size+1) v' 0)):=fun w1 h=>by
  refine (r5int_any (u:=0) (by omega)).mono ?_
  rintro e w' ⟨_,rfl,b,o⟩
  exact Gives.mk b (Sv.of_own o h)
 generalize mx a 0=A at*
 generalize mx b 0=B at*
 obtain ⟨w1,hw1,b1,c1,-,-,r2,z⟩:=bx2 w [x0,x1,x2,x3,x4,x5] [.bool false,.slice none 0 0,.slice none 0 0,.bool false,.slice none 0 0,.slice none 0 0] 48 48
 have C1:=Lib.hid c1
 have RR:Hid (Rm w1 (w.heap.size+1) 6):=r2
 have HW:=Lib.hid hw1
 have SZ:Hid (w.heap.size+1 < w1.heap.size):=by show _ < _;omega
 clear h1 h2 sa sb sz c1 r2 hw1 z
 go_enter Try.func118,Try.ntmps118
 go_upto_region 1 with (fail)
 rw [← HW.out]
 clear HW
 have b2:=drew_ext w1
 have XE:=b2
 refine wp_region_noPanic ?_
 refine wp_region_held_drew (S:=fun w'=>w'.cell? ⟨w.heap.size,0,none⟩=some (x0)∧w'.cell? ⟨w.heap.size,1,none⟩=some (x1)∧w'.cell? ⟨w.heap.size,2,none⟩=some (x2)∧w'.cell? ⟨w.heap.size,3,none⟩=some (x3)∧w'.cell? ⟨w.heap.size,4,none⟩=some (x4)∧w'.cell? ⟨w.heap.size,5,none⟩=some (x5)) (by kernel_rfl) ((C1.out.ext XE).c6) (fun hHeld=>?_)
 refine tkH 0 hHeld ?_
 simp only [jP,jA,jB,jC,jD,jE,jF]
 refine tkH 1 hHeld ?_
 simp only [jP,jA,jB,jC,jD,jE,jF]
 refine tkH 4 hHeld ?_
 simp only [jP,jA,jB,jC,jD,jE,jF]
 refine tkH 5 hHeld ?_
 simp only [jP,jA,jB,jC,jD,jE,jF]
 refine rdH 2 (by kernel_rfl) rfl (fun K hK=>?_)
 go_simp
 go_at_call 41;refine (HI.out _ (Nat.lt_of_lt_of_le SZ.out b2.size)).mono ?_;rintro e w3 ⟨v3,rfl,b3,o3⟩;have O3:=Lib.hid o3;clear o3;(first | have XE:=Ext.trans XE b3 | have XE:=Ext.trans (Ext.trans XE (Ext.alloc _ _)) b3)
 go_wp2_with fail
 refine hK.out _ _ ((C1.out.ext XE).c6) (fun hHeld=>?_)
 clear hK K
 try simp only [jP,jA,jB,jC,jD,jE,jF]
 refine rdH 3 (by kernel_rfl) rfl (fun K hK=>?_)
 go_simp
 go_at_call 145;refine (HA.out _ w3 _ (Ext.trans b1 (Ext.trans b2 b3)) O3.out).mono ?_;rintro e w4 ⟨v4,rfl,b4,o4⟩;have O4:=Lib.hid o4;clear o4;(first | have XE:=Ext.trans XE b4 | have XE:=Ext.trans (Ext.trans XE (Ext.alloc _ _)) b4);obtain ⟨an4,cn4,ad4,cd4,rfl⟩:=Sv.shape O4.out
 go_wp2_with fail
 refine hK.out _ _ ((C1.out.ext XE).c6) (fun hHeld=>?_)
 clear hK K
 try simp only [jP,jA,jB,jC,jD,jE,jF]
 refine rdH 6 (by kernel_rfl) rfl (fun K hK=>?_)
 go_simp
 go_at_call 41;refine (HI.out _ (Nat.lt_of_lt_of_le SZ.out (Ext.trans b2 (Ext.trans b3 b4)).size)).mono ?_;rintro e w5 ⟨v5,rfl,b5,o5⟩;have O5:=Lib.hid o5;clear o5;(first | have XE:=Ext.trans XE b5 | have XE:=Ext.trans (Ext.trans XE (Ext.alloc _ _)) b5)
 go_wp2_with fail
 refine hK.out _ _ ((C1.out.ext XE).c6) (fun hHeld=>?_)
 clear hK K
 try simp only [jP,jA,jB,jC,jD,jE,jF]
 refine rdH 7 (by kernel_rfl) rfl (fun K hK=>?_)
 go_simp
 go_at_call 145;refine (HB.out _ w5 _ (Ext.trans b1 (Ext.trans b2 (Ext.trans b3 (Ext.trans b4 b5)))) O5.out).mono ?_;rintro e w6 ⟨v6,rfl,b6,o6⟩;have O6:=Lib.hid o6;clear o6;(first | have XE:=Ext.trans XE b6 | have XE:=Ext.trans (Ext.trans XE (Ext.alloc _ _)) b6);obtain ⟨an6,cn6,ad6,cd6,rfl⟩:=Sv.shape O6.out;obtain ⟨_,_,_,_,_,_,j0,j1,j2,j3,j4,j5,g0,g1,g2,g3,g4,g5⟩:=(RR.out.ext XE).c6
 go_wp2_with fail
 refine hK.out _ _ ((C1.out.ext XE).c6) (fun hHeld=>?_)
 clear hK K
 try simp only [jP,jA,jB,jC,jD,jE,jF]
 refine tkH 8 hHeld ?_
 simp only [jP,jA,jB,jC,jD,jE,jF]
 refine rdH 9 (by kernel_rfl) rfl (fun K hK=>?_)
 go_simp
 refine hK.out _ _ (((C1.out.ext XE).put6 (by omega) _ _ _ _ _ _).c6) (fun hHeld=>?_)
 clear hK K
 try simp only [jP,jA,jB,jC,jD,jE,jF]
 refine wpAnyH_done (by kernel_rfl) ?_ _
 refine NoPanic.normal ?_
 go_wp2_with fail
 refine bodyPost_ret (v:=.agg #[.bool (decide (A.num < 0)),.slice an4 (bitsOf A.num.natAbs).length cn4,.slice ad4 (bitsOf A.den).length cd4,.bool (decide (B.num < 0)),.slice an6 (bitsOf B.num.natAbs).length cn6,.slice ad6 (bitsOf B.den).length cd6]) (by simp [results,Try.results118,go_sem,j0,j1,j2,j3,j4,j5]) rfl ?_
 exact hR.out _ _ (Gives.mk (put6_below (Ext.trans b1 (Ext.trans b2 (Ext.trans b3 (Ext.trans b4 (Ext.trans b5 b6))))) (show w.heap.size≤w.heap.size+1 by omega) _ _ _ _ _ _) ⟨_,_,_,_,_,_,rfl,(O4.out.ext (Ext.trans b5 b6)).2 _ (Ext.refl _) _ _ _ _ _ _,O6.out.2 _ (Ext.refl _) _ _ _ _ _ _⟩)
end Go.Proofs.Ytnbbhpihlcglgaa

namespace Go.Att
theorem OwnD.op6 {e:TypeId} {B:Nat} {w:World} {v:Value} {a b:Rat} (h:OwnD e B w v a b):∃ x y z x' y' z',v=.agg #[x,y,z,x',y',z']∧OwnQ e B w (.agg #[x,y,z]) a∧OwnQ e B w (.agg #[x',y',z']) b:=by
 obtain ⟨n,d,m,c,rfl,h1,h2,h3,h4⟩:=h
 exact ⟨_,_,_,_,_,_,rfl,⟨_,_,rfl,h1,h2⟩,⟨_,_,rfl,h3,h4⟩⟩
theorem cells_DO {e:TypeId} {B:Nat} {w:World} {cs:List Value} {a b:Rat} (h:OwnD e B w (.agg cs.toArray) a b):∃ x y z x' y' z',cs=[x,y,z,x',y',z']∧OwnQ e B w (.agg #[x,y,z]) a∧OwnQ e B w (.agg #[x',y',z']) b:=by
 obtain ⟨x,y,z,x',y',z',he,h1,h2⟩:=h.op6
 exact ⟨x,y,z,x',y',z',by simpa using he,h1,h2⟩
theorem OwnD.mk6 {e:TypeId} {B:Nat} {w:World} {x y z x' y' z':Value} {a b:Rat} (h1:OwnQ e B w (.agg #[x,y,z]) a) (h2:OwnQ e B w (.agg #[x',y',z']) b):OwnD e B w (.agg #[x,y,z,x',y',z']) a b:=by
 obtain ⟨n,d,he,k1,k2⟩:=h1
 obtain ⟨m,c,he',k3,k4⟩:=h2
 simp only [Value.agg.injEq,Array.mk.injEq,List.cons.injEq,and_true] at he he'
 obtain ⟨rfl,rfl,rfl⟩:=he
 obtain ⟨rfl,rfl,rfl⟩:=he'
 exact ⟨_,_,_,_,rfl,k1,k2,k3,k4⟩
theorem ownq_zz (e:TypeId) (w:World):OwnQ e 0 w (.agg #[.bool false,.slice none 0 0,.slice none 0 0]) 0:=by
 have h0:OwnL e 0 w (.slice none 0 0) []:=⟨⟨by simp [ints],.inl ⟨rfl,rfl⟩⟩,Fit.nil _⟩
 have h:OwnL e 0 w (.slice none 0 0) (limbs 0):=by rw [limbs_zero];exact h0
 exact ⟨_,_,rfl,h,h0⟩
end Go.Att
namespace Go.Proofs.Ytnbbhpihlcglgaa
open Go.RowKit Go.Att

theorem max_own {w:World} {x0 x1 x2 y0 y1 y2:Value} {a b:Rat} (h1:OwnQ 163 0 w (.agg #[x0,x1,x2]) a) (h2:OwnQ 163 0 w (.agg #[y0,y1,y2]) b) (sa:Sz 10000000 a) (sb:Sz 10000000 b):
  ∃ z0 z1 z2,OwnQ 163 0 w (.agg #[z0,z1,z2]) (mx a b)∧∀ w',Ext w w'→Calls Try.prog 123 #[.agg #[x0,x1,x2],.agg #[y0,y1,y2]] w' (Gives w' fun v' _=>v'=.agg #[z0,z1,z2]):=by
 unfold mx
 by_cases h:0≤(a - b).num.sign
 ·rw [if_pos h]
  exact ⟨x0,x1,x2,h1,fun _ X=>by have:=rmax_val (h1.rd.ext X) (h2.rd.ext X) sa sb;rw [if_pos h] at this;exact this⟩
 ·rw [if_neg h]
  exact ⟨y0,y1,y2,h2,fun _ X=>by have:=rmax_val (h1.rd.ext X) (h2.rd.ext X) sa sb;rw [if_neg h] at this;exact this⟩
set_option maxHeartbeats 1000000 in
set_option linter.unusedSimpArgs false in
theorem srelu_own {w:World} {va:Value} {a b:Rat} (hp:OwnD 163 0 w va a b) (sa:Sz 10000000 a) (sb:Sz 10000000 b):
  Calls Try.prog 116 #[va] w (Gives w fun v' w'=>OwnD 163 0 w' v' (mx a 0) (mx b 0)):=by
 refine via fun R hR=>?_
 obtain ⟨x0,x1,x2,x3,x4,x5,rfl,h1,h2⟩:=hp.op6
 obtain ⟨p0,p1,p2,hA,hcA⟩:=max_own h1 (ownq_zz _ w) sa (Sz.zero.le (by decide))
 obtain ⟨q0,q1,q2,hB,hcB⟩:=max_own h2 (ownq_zz _ w) sb (Sz.zero.le (by decide))
 generalize mx a 0=A at*
 generalize mx b 0=B at*
 obtain ⟨an3,cn3,ad3,cd3,rfl,rfl,rfl⟩:=shape_Q hA.rd
 obtain ⟨an4,cn4,ad4,cd4,rfl,rfl,rfl⟩:=shape_Q hB.rd
 have GA:=Lib.hid hA
 have GB:=Lib.hid hB
 have HCA:=Lib.hid hcA
 have HCB:=Lib.hid hcB
 obtain ⟨w1,hw1,b1,c1,-,c2,-,r2,-,-⟩:=bx3 w [x0,x1,x2,x3,x4,x5] [.bool false,.slice none 0 0,.slice none 0 0,.bool false,.slice none 0 0,.slice none 0 0] [.bool false,.slice none 0 0,.slice none 0 0] 34 34 32
 have C1:=Lib.hid c1
 have C2:=Lib.hid c2
 have RR:Hid (Rm w1 (w.heap.size+1) 6):=r2
 have HW:=Lib.hid hw1
 clear h1 h2 sa sb c1 c2 r2 hw1 hcA hcB hA hB
 go_enter Try.func116,Try.ntmps116
 go_upto_region 2 with (fail)
 rw [← HW.out]
 clear HW
 have b2:=drew_ext w1
 have XE:=b2
 refine wp_region_noPanic ?_
 refine wp_region_held_drew (S:=fun w'=>(w'.cell? ⟨w.heap.size,0,none⟩=some (x0)∧w'.cell? ⟨w.heap.size,1,none⟩=some (x1)∧w'.cell? ⟨w.heap.size,2,none⟩=some (x2)∧w'.cell? ⟨w.heap.size,3,none⟩=some (x3)∧w'.cell? ⟨w.heap.size,4,none⟩=some (x4)∧w'.cell? ⟨w.heap.size,5,none⟩=some (x5))∧(w'.cell? ⟨w.heap.size+1+1,0,none⟩=some (.bool false)∧w'.cell? ⟨w.heap.size+1+1,1,none⟩=some (.slice none 0 0)∧w'.cell? ⟨w.heap.size+1+1,2,none⟩=some (.slice none 0 0))) (by kernel_rfl) (⟨(C1.out.ext XE).c6,(C2.out.ext XE).c3⟩) (fun hHeld=>?_)
 refine tkH 0 hHeld ?_
 simp only [jP,jA,jB,jC,jD,jE,jF]
 refine tkH 1 hHeld ?_
 simp only [jP,jA,jB,jC,jD,jE,jF]
 refine tkH 2 hHeld ?_
 simp only [jP,jA,jB,jC,jD,jE,jF]
 refine tkH 4 hHeld ?_
 simp only [jP,jA,jB,jC,jD,jE,jF]
 refine tkH 5 hHeld ?_
 simp only [jP,jA,jB,jC,jD,jE,jF]
 refine tkH 6 hHeld ?_
 simp only [jP,jA,jB,jC,jD,jE,jF]
 refine rdH 3 (by kernel_rfl) rfl (fun K hK=>?_)
 go_simp
 go_at_call 123;refine (HCA.out _ (Ext.trans b1 b2)).mono ?_;rintro e w3 ⟨_,rfl,b3,rfl⟩;(first | have XE:=Ext.trans XE b3 | have XE:=Ext.trans (Ext.trans XE (Ext.alloc _ _)) b3)
 go_wp2_with fail
 refine hK.out _ _ (⟨(C1.out.ext XE).c6,(C2.out.ext XE).c3⟩) (fun hHeld=>?_)
 clear hK K
 try simp only [jP,jA,jB,jC,jD,jE,jF]
 refine rdH 7 (by kernel_rfl) rfl (fun K hK=>?_)
 go_simp
 go_at_call 123;refine (HCB.out _ (Ext.trans b1 (Ext.trans b2 b3))).mono ?_;rintro e w4 ⟨_,rfl,b4,rfl⟩;(first | have XE:=Ext.trans XE b4 | have XE:=Ext.trans (Ext.trans XE (Ext.alloc _ _)) b4);obtain ⟨_,_,_,_,_,_,j0,j1,j2,j3,j4,j5,g0,g1,g2,g3,g4,g5⟩:=(RR.out.ext XE).c6
 go_wp2_with fail
 refine hK.out _ _ (⟨(C1.out.ext XE).c6,(C2.out.ext XE).c3⟩) (fun hHeld=>?_)
 clear hK K
 try simp only [jP,jA,jB,jC,jD,jE,jF]
 refine tkH 8 hHeld ?_
 simp only [jP,jA,jB,jC,jD,jE,jF]
 refine rdH 9 (by kernel_rfl) rfl (fun K hK=>?_)
 go_simp
 refine hK.out _ _ (⟨((C1.out.ext XE).put6 (by omega) _ _ _ _ _ _).c6,((C2.out.ext XE).put6 (by omega) _ _ _ _ _ _).c3⟩) (fun hHeld=>?_)
 clear hK K
 try simp only [jP,jA,jB,jC,jD,jE,jF]
 refine wpAnyH_done (by kernel_rfl) ?_ _
 refine NoPanic.normal ?_
 go_wp2_with fail
 refine bodyPost_ret (v:=.agg #[.bool (decide (A.num < 0)),.slice an3 (limbs A.num.natAbs).length cn3,.slice ad3 (dens A.den).length cd3,.bool (decide (B.num < 0)),.slice an4 (limbs B.num.natAbs).length cn4,.slice ad4 (dens B.den).length cd4]) (by simp [results,Try.results116,go_sem,j0,j1,j2,j3,j4,j5]) rfl ?_
 have xx:=put6_below (Ext.trans b1 (Ext.trans b2 (Ext.trans b3 b4))) (show w.heap.size≤w.heap.size+1 by omega) (.bool (decide (A.num < 0))) (.slice an3 (limbs A.num.natAbs).length cn3) (.slice ad3 (dens A.den).length cd3) (.bool (decide (B.num < 0))) (.slice an4 (limbs B.num.natAbs).length cn4) (.slice ad4 (dens B.den).length cd4)
 exact hR.out _ _ (Gives.mk xx (OwnD.mk6 (GA.out.ext xx) (GB.out.ext xx)))
set_option maxHeartbeats 2000000 in
set_option linter.unusedSimpArgs false in
theorem smax_own {w:World} {v:Value} {l:List (Rat × Rat)} (hv:RdRow 6 (OwnDp 163) w v l) (h0:0 < l.length) (hs:∀ p∈l,Sz 1000000 p.1∧Sz 1000000 p.2):
  Calls Try.prog 117 #[v] w (Gives w fun v' w'=>∃ o,v'=.tuple #[o,.bool true]∧OwnD 163 0 w' o (mxs l l[0]).1 (mxs l l[0]).2):=by
 refine via fun R hR=>?_
 have HS:=Lib.hid hs
 obtain ⟨a,c,rfl,hlc,hcm⟩:=hv.shape
 have HV:=Lib.hid hv
 unfold maxLen at hcm
 obtain ⟨b,off,cs,rfl,hcl,hT,hc⟩:=hv.at (by decide) 0 h0
 obtain ⟨z0,z1,z2,z3,z4,z5,rfl,hz1,hz2⟩:=cells_DO hT
 have HZ:Hid (OwnD 163 0 w (.agg #[z0,z1,z2,z3,z4,z5]) l[0].1 l[0].2):=hT
 obtain ⟨_,_,_,_,_,_,_,rfl,rfl,rfl⟩:=RdQ.op3 (OwnQ.rd hz1)
 obtain ⟨_,_,_,_,_,_,_,rfl,rfl,rfl⟩:=RdQ.op3 (OwnQ.rd hz2)
 obtain ⟨w1,hw1,b1,-,r1,-⟩:=bx1 w [.bool false,.slice none 0 0,.slice none 0 0,.bool false,.slice none 0 0,.slice none 0 0] 34
 have HW:=Lib.hid hw1
 have R1:Hid (Rm w1 w.heap.size 6):=r1
 have e0:=Ext.cell b1 (hc 0 (by decide))
 have e1:=Ext.cell b1 (hc 1 (by decide))
 have e2:=Ext.cell b1 (hc 2 (by decide))
 have e3:=Ext.cell b1 (hc 3 (by decide))
 have e4:=Ext.cell b1 (hc 4 (by decide))
 have e5:=Ext.cell b1 (hc 5 (by decide))
 simp only [List.getElem?_cons_zero,List.getElem?_cons_succ,Nat.add_zero,Nat.zero_mul] at e0 e1 e2 e3 e4 e5
 have hne:((l.length:Int) == 0)=false:=beq_false_of_ne (by omega)
 clear hv hs hT hz1 hz2 hc hw1 r1
 go_enter Try.func117,Try.ntmps117
 go_upto_region 3 with (fail)
 rw [← HW.out]
 clear HW
 go_wp2_with fail
 clear e0 e1 e2 e3 e4 e5
 go_loopw [16] (fun i wr=>∃ (k:Nat) (x0 x1 x2 x3 x4 x5:Value),i=.int .i64 k∧k≤l.length∧Ext w1 wr∧Hid (Bx wr w1.heap.size [x0,x1,x2,x3,x4,x5])∧Hid (Rm wr w1.heap.size 6)∧Hid (OwnD 163 0 w (.agg #[x0,x1,x2,x3,x4,x5]) (mxs (l.take k) l[0]).1 (mxs (l.take k) l[0]).2)) (fun i _=>l.length - (intOf i).toNat)
 case atStart=>exact ⟨0,_,_,_,_,_,_,rfl,Nat.zero_le _,Ext.alloc _ _,Bx.new w1 [_,_,_,_,_,_] _,Rm.new w1 [_,_,_,_,_,_] _,by rw [List.take_zero];exact HZ.out⟩
 case round=>
  obtain ⟨k,x0,x1,x2,x3,x4,x5,rfl,hk,hx,hB,hM,hD⟩:=hrel
  have b2:=hx
  generalize wr=w2 at*
  have hsz:=hx.size
  by_cases hlt:k < l.length
  ·obtain ⟨b',off',cs,hb',hcl,hT,hc⟩:=HV.out.at (by decide) k hlt
   simp only [Option.some.injEq,Addr.mk.injEq,and_true] at hb'
   obtain ⟨rfl,rfl⟩:=hb'
   obtain ⟨y0,y1,y2,y3,y4,y5,rfl,hy1,hy2⟩:=cells_DO hT
   obtain ⟨s0,a1,n1,c1,a2,n2,c2,rfl,rfl,rfl⟩:=RdQ.op3 (OwnQ.rd hy1)
   obtain ⟨s3,a4,n4,c4,a5,n5,c5,rfl,rfl,rfl⟩:=RdQ.op3 (OwnQ.rd hy2)
   obtain ⟨s1,s2⟩:=HS.out l[k] (List.getElem_mem hlt)
   obtain ⟨r1,r2⟩:=mxs_all (Sz 1000000) (l.take k) l[0] (HS.out _ (List.getElem_mem h0)) (fun _ h=>HS.out _ (List.mem_of_mem_take h))
   have HK:=Lib.hid (mxs_take hlt l[0])
   generalize mxs (l.take k) l[0]=m at*
   generalize l[k]=y at*
   obtain ⟨p0,p1,p2,hA,hcA⟩:=max_own (OwnD.fstQ hD.out) hy1 (r1.le (by decide)) (s1.le (by decide))
   obtain ⟨q0,q1,q2,hB',hcB⟩:=max_own (OwnD.sndQ hD.out) hy2 (r2.le (by decide)) (s2.le (by decide))
   have HA:=Lib.hid hA
   have HB:=Lib.hid hB'
   have HCA:=Lib.hid hcA
   have HCB:=Lib.hid hcB
   obtain ⟨_,_,_,_,_,_,_,rfl,rfl,rfl⟩:=RdQ.op3 hA.rd
   obtain ⟨_,_,_,_,_,_,_,rfl,rfl,rfl⟩:=RdQ.op3 hB'.rd
   have b02:=Ext.trans b1 b2
   have e0:=Ext.cell b02 (hc 0 (by decide))
   have e1:=Ext.cell b02 (hc 1 (by decide))
   have e2:=Ext.cell b02 (hc 2 (by decide))
   have e3:=Ext.cell b02 (hc 3 (by decide))
   have e4:=Ext.cell b02 (hc 4 (by decide))
   have e5:=Ext.cell b02 (hc 5 (by decide))
   simp only [List.getElem?_cons_zero,List.getElem?_cons_succ,Nat.add_zero] at e0 e1 e2 e3 e4 e5
   obtain ⟨w3,hw3,b3,c3,-,-⟩:=bx1 w2 [.bool s0,.slice a1 n1 c1,.slice a2 n2 c2,.bool s3,.slice a4 n4 c4,.slice a5 n5 c5] 34
   have HW:=Lib.hid hw3
   have C3:=Lib.hid c3
   have CM:=Lib.hid (hB.out.ext b3)
   have RM:=Lib.hid (hM.out.ext b3)
   clear hT hc hy1 hy2 s1 s2 r1 r2 hA hB' hcA hcB hw3 c3 hB hM
   go_upto_region 7 with (fail)
   rw [← HW.out]
   clear HW e0 e1 e2 e3 e4 e5 hcl
   generalize Value.bool s0=y0 at*
   generalize Value.slice a1 n1 c1=y1 at*
   generalize Value.slice a2 n2 c2=y2 at*
   generalize Value.bool s3=y3 at*
   generalize Value.slice a4 n4 c4=y4 at*
   generalize Value.slice a5 n5 c5=y5 at*
   have b4:=drew_ext w3
   have XE:=b4
   refine wp_region_noPanic ?_
   refine wp_region_last_drew (st:=11) (S:=fun w'=>(w'.cell? ⟨w1.heap.size,0,none⟩=some (x0)∧w'.cell? ⟨w1.heap.size,1,none⟩=some (x1)∧w'.cell? ⟨w1.heap.size,2,none⟩=some (x2)∧w'.cell? ⟨w1.heap.size,3,none⟩=some (x3)∧w'.cell? ⟨w1.heap.size,4,none⟩=some (x4)∧w'.cell? ⟨w1.heap.size,5,none⟩=some (x5))∧(w'.cell? ⟨w2.heap.size,0,none⟩=some (y0)∧w'.cell? ⟨w2.heap.size,1,none⟩=some (y1)∧w'.cell? ⟨w2.heap.size,2,none⟩=some (y2)∧w'.cell? ⟨w2.heap.size,3,none⟩=some (y3)∧w'.cell? ⟨w2.heap.size,4,none⟩=some (y4)∧w'.cell? ⟨w2.heap.size,5,none⟩=some (y5))) (by kernel_rfl) (⟨(CM.out.ext XE).c6,(C3.out.ext XE).c6⟩) (fun hHeld=>?_)
   refine tkL 0 hHeld ?_
   simp only [jP,jA,jB,jC,jD,jE,jF]
   refine tkL 1 hHeld ?_
   simp only [jP,jA,jB,jC,jD,jE,jF]
   refine tkL 2 hHeld ?_
   simp only [jP,jA,jB,jC,jD,jE,jF]
   refine tkL 3 hHeld ?_
   simp only [jP,jA,jB,jC,jD,jE,jF]
   refine tkL 5 hHeld ?_
   simp only [jP,jA,jB,jC,jD,jE,jF]
   refine tkL 6 hHeld ?_
   simp only [jP,jA,jB,jC,jD,jE,jF]
   refine tkL 7 hHeld ?_
   simp only [jP,jA,jB,jC,jD,jE,jF]
   refine tkL 8 hHeld ?_
   simp only [jP,jA,jB,jC,jD,jE,jF]
   refine rdL 4 (by kernel_rfl) rfl (fun K hK=>?_)
   go_simp
   go_at_call 123;refine (HCA.out _ (Ext.trans b02 (Ext.trans b3 XE))).mono ?_;rintro e w5 ⟨_,rfl,b5,rfl⟩;(first | have XE:=Ext.trans XE b5 | have XE:=Ext.trans (Ext.trans XE (Ext.alloc _ _)) b5)
   go_wp2_with fail
   refine hK.out _ _ (⟨(CM.out.ext XE).c6,(C3.out.ext XE).c6⟩) (fun hHeld=>?_)
   clear hK K
   try simp only [jP,jA,jB,jC,jD,jE,jF]
   refine rdL 9 (by kernel_rfl) rfl (fun K hK=>?_)
   go_simp
   go_at_call 123;refine (HCB.out _ (Ext.trans b02 (Ext.trans b3 XE))).mono ?_;rintro e w6 ⟨_,rfl,b6,rfl⟩;(first | have XE:=Ext.trans XE b6 | have XE:=Ext.trans (Ext.trans XE (Ext.alloc _ _)) b6)
   go_wp2_with fail
   refine hK.out _ _ (⟨(CM.out.ext XE).c6,(C3.out.ext XE).c6⟩) (fun hHeld=>?_)
   clear hK K
   try simp only [jP,jA,jB,jC,jD,jE,jF]
   refine tkL 10 hHeld ?_
   simp only [jP,jA,jB,jC,jD,jE,jF]
   obtain ⟨_,_,_,_,_,_,j0,j1,j2,j3,j4,j5,g0,g1,g2,g3,g4,g5⟩:=(RM.out.ext XE).c6
   refine wpAnyL_ready (rs:=[11]) (by kernel_rfl) (by simp) ?_
   refine AllReadyL.last (o:=_) rfl (fun K hK=>?_)
   go_simp
   refine hK.out _ _ ?_
   clear hK K
   try simp only [jP,jA,jB,jC,jD,jE,jF]
   refine wpAnyL_done (by kernel_rfl) ?_ _
   refine NoPanic.normal ?_
   go_wp2_with fail
   go_roundw
   case rel=>
    have X:=Ext.trans b3 XE
    exact ⟨k+1,_,_,_,_,_,_,by go_num,by omega,put6_below (Ext.trans b2 X) (Nat.le_refl _) _ _ _ _ _ _,(Bx.putL_at (RM.out.ext XE) [_,_,_,_,_,_] rfl).1,(Bx.putL_at (RM.out.ext XE) [_,_,_,_,_,_] rfl).2,by rw [HK.out];exact OwnD.mk6 HA.out HB.out⟩
   case measure=>simp [intOf] <;> omega
  ·obtain rfl:k=l.length:=by omega
   have HX:Hid (mxs (l.take l.length) l[0]=mxs l l[0]):=by show _=_;rw [List.take_length]
   obtain ⟨k0,k1,k2,k3,k4,k5⟩:=hB.out.c6
   obtain ⟨s0,a1,n1,c1,a2,n2,c2,s3,a4,n4,c4,a5,n5,c5,hsh,-⟩:=RdD.op (OwnD.rd hD.out)
   simp only [Value.agg.injEq,Array.mk.injEq,List.cons.injEq,and_true] at hsh
   obtain ⟨rfl,rfl,rfl,rfl,rfl,rfl⟩:=hsh
   obtain ⟨_,_,_,_,_,_,j0,j1,j2,j3,j4,j5,g0,g1,g2,g3,g4,g5⟩:=(R1.out.ext hx).c6
   go_wp2_with fail
   refine bodyPost_ret (v:=.tuple #[.agg #[.bool s0,.slice a1 n1 c1,.slice a2 n2 c2,.bool s3,.slice a4 n4 c4,.slice a5 n5 c5],.bool true]) (by simp [results,Try.results117,go_sem,j0,j1,j2,j3,j4,j5]) rfl ?_
   exact hR.out _ _ (Gives.mk (put6_below (Ext.trans b1 b2) (Nat.le_refl _) _ _ _ _ _ _) ⟨_,rfl,by rw [← HX.out];exact hD.out.ext (put6_below (Ext.trans b1 b2) (Nat.le_refl _) _ _ _ _ _ _)⟩)
end Go.Proofs.Ytnbbhpihlcglgaa

namespace Go.Att
theorem OwnE.op6 {e:TypeId} {B:Nat} {w:World} {v:Value} {a b:Rat} (h:OwnE e B w v a b):∃ x y z x' y' z',v=.agg #[x,y,z,x',y',z']∧OwnP e B w (.agg #[x,y,z]) a∧OwnP e B w (.agg #[x',y',z']) b:=by
 obtain ⟨n,d,m,c,rfl,h1,h2,h3,h4⟩:=h
 exact ⟨_,_,_,_,_,_,rfl,⟨_,_,rfl,h1,h2⟩,⟨_,_,rfl,h3,h4⟩⟩
theorem cells_EO {e:TypeId} {B:Nat} {w:World} {cs:List Value} {a b:Rat} (h:OwnE e B w (.agg cs.toArray) a b):∃ x y z x' y' z',cs=[x,y,z,x',y',z']∧OwnP e B w (.agg #[x,y,z]) a∧OwnP e B w (.agg #[x',y',z']) b:=by
 obtain ⟨x,y,z,x',y',z',he,h1,h2⟩:=h.op6
 exact ⟨x,y,z,x',y',z',by simpa using he,h1,h2⟩
theorem OwnE.mk6 {e:TypeId} {B:Nat} {w:World} {x y z x' y' z':Value} {a b:Rat} (h1:OwnP e B w (.agg #[x,y,z]) a) (h2:OwnP e B w (.agg #[x',y',z']) b):OwnE e B w (.agg #[x,y,z,x',y',z']) a b:=by
 obtain ⟨n,d,he,k1,k2⟩:=h1
 obtain ⟨m,c,he',k3,k4⟩:=h2
 simp only [Value.agg.injEq,Array.mk.injEq,List.cons.injEq,and_true] at he he'
 obtain ⟨rfl,rfl,rfl⟩:=he
 obtain ⟨rfl,rfl,rfl⟩:=he'
 exact ⟨_,_,_,_,rfl,k1,k2,k3,k4⟩
theorem OwnE.fstP {e:TypeId} {B:Nat} {w:World} {x y z x' y' z':Value} {a b:Rat} (h:OwnE e B w (.agg #[x,y,z,x',y',z']) a b):OwnP e B w (.agg #[x,y,z]) a:=by
 obtain ⟨n,d,m,c,he,h1,h2,-,-⟩:=h
 simp only [Value.agg.injEq,Array.mk.injEq,List.cons.injEq,and_true] at he
 obtain ⟨rfl,rfl,rfl,-,-,-⟩:=he
 exact ⟨_,_,rfl,h1,h2⟩
theorem OwnE.sndP {e:TypeId} {B:Nat} {w:World} {x y z x' y' z':Value} {a b:Rat} (h:OwnE e B w (.agg #[x,y,z,x',y',z']) a b):OwnP e B w (.agg #[x',y',z']) b:=by
 obtain ⟨n,d,m,c,he,-,-,h1,h2⟩:=h
 simp only [Value.agg.injEq,Array.mk.injEq,List.cons.injEq,and_true] at he
 obtain ⟨-,-,-,rfl,rfl,rfl⟩:=he
 exact ⟨_,_,rfl,h1,h2⟩
end Go.Att
namespace Go.Proofs.Ytnbbhpihlcglgaa
open Go.RowKit Go.Att

theorem top_own {w:World} {x0 x1 x2 y0 y1 y2:Value} {a b:Rat} (h1:OwnP 4 0 w (.agg #[x0,x1,x2]) a) (h2:OwnP 4 0 w (.agg #[y0,y1,y2]) b) (sa:Sb 50000 a) (sb:Sb 50000 b):
  ∃ z0 z1 z2,OwnP 4 0 w (.agg #[z0,z1,z2]) (mx a b)∧∀ w',Ext w w'→Calls Try.prog 145 #[.agg #[x0,x1,x2],.agg #[y0,y1,y2]] w' (Gives w' fun v' _=>v'=.agg #[z0,z1,z2]):=by
 unfold mx
 by_cases h:0≤(a - b).num.sign
 ·rw [if_pos h]
  exact ⟨x0,x1,x2,h1,fun _ X=>by have:=top_val (h1.rd.ext X) (h2.rd.ext X) sa sb;rw [if_pos h] at this;exact this⟩
 ·rw [if_neg h]
  exact ⟨y0,y1,y2,h2,fun _ X=>by have:=top_val (h1.rd.ext X) (h2.rd.ext X) sa sb;rw [if_neg h] at this;exact this⟩
set_option maxHeartbeats 2000000 in
set_option linter.unusedSimpArgs false in
theorem r17max_own {w:World} {v:Value} {l:List (Rat × Rat)} (hv:RdRow 6 (OwnEp 4) w v l) (h0:0 < l.length) (hs:∀ p∈l,Sb 50000 p.1∧Sb 50000 p.2):
  Calls Try.prog 119 #[v] w (Gives w fun v' w'=>OwnE 4 0 w' v' (mxs l l[0]).1 (mxs l l[0]).2):=by
 refine via fun R hR=>?_
 have HS:=Lib.hid hs
 obtain ⟨a,c,rfl,hlc,hcm⟩:=hv.shape
 have HV:=Lib.hid hv
 unfold maxLen at hcm
 obtain ⟨b,off,cs,rfl,hcl,hT,hc⟩:=hv.at (by decide) 0 h0
 obtain ⟨z0,z1,z2,z3,z4,z5,rfl,hz1,hz2⟩:=cells_EO hT
 have HZ:Hid (OwnE 4 0 w (.agg #[z0,z1,z2,z3,z4,z5]) l[0].1 l[0].2):=hT
 obtain ⟨_,_,_,_,_,_,_,rfl,rfl,rfl⟩:=RdP.op3 (OwnP.rd hz1)
 obtain ⟨_,_,_,_,_,_,_,rfl,rfl,rfl⟩:=RdP.op3 (OwnP.rd hz2)
 obtain ⟨w1,hw1,b1,-,r1,-⟩:=bx1 w [.bool false,.slice none 0 0,.slice none 0 0,.bool false,.slice none 0 0,.slice none 0 0] 48
 have HW:=Lib.hid hw1
 have R1:Hid (Rm w1 w.heap.size 6):=r1
 have e0:=Ext.cell b1 (hc 0 (by decide))
 have e1:=Ext.cell b1 (hc 1 (by decide))
 have e2:=Ext.cell b1 (hc 2 (by decide))
 have e3:=Ext.cell b1 (hc 3 (by decide))
 have e4:=Ext.cell b1 (hc 4 (by decide))
 have e5:=Ext.cell b1 (hc 5 (by decide))
 simp only [List.getElem?_cons_zero,List.getElem?_cons_succ,Nat.add_zero,Nat.zero_mul] at e0 e1 e2 e3 e4 e5
 clear hv hs hT hz1 hz2 hc hw1 r1
 go_enter Try.func119,Try.ntmps119
 go_upto_region 1 with (fail)
 rw [← HW.out]
 clear HW
 go_wp2_with fail
 clear e0 e1 e2 e3 e4 e5
 go_loopw [11] (fun i wr=>∃ (k:Nat) (x0 x1 x2 x3 x4 x5:Value),i=.int .i64 k∧k≤l.length∧Ext w1 wr∧Hid (Bx wr w1.heap.size [x0,x1,x2,x3,x4,x5])∧Hid (Rm wr w1.heap.size 6)∧Hid (OwnE 4 0 w (.agg #[x0,x1,x2,x3,x4,x5]) (mxs (l.take k) l[0]).1 (mxs (l.take k) l[0]).2)) (fun i _=>l.length - (intOf i).toNat)
 case atStart=>exact ⟨0,_,_,_,_,_,_,rfl,Nat.zero_le _,Ext.alloc _ _,Bx.new w1 [_,_,_,_,_,_] _,Rm.new w1 [_,_,_,_,_,_] _,by rw [List.take_zero];exact HZ.out⟩
 case round=>
  obtain ⟨k,x0,x1,x2,x3,x4,x5,rfl,hk,hx,hB,hM,hD⟩:=hrel
  have b2:=hx
  generalize wr=w2 at*
  have hsz:=hx.size
  by_cases hlt:k < l.length
  ·obtain ⟨b',off',cs,hb',hcl,hT,hc⟩:=HV.out.at (by decide) k hlt
   simp only [Option.some.injEq,Addr.mk.injEq,and_true] at hb'
   obtain ⟨rfl,rfl⟩:=hb'
   obtain ⟨y0,y1,y2,y3,y4,y5,rfl,hy1,hy2⟩:=cells_EO hT
   obtain ⟨s0,a1,n1,c1,a2,n2,c2,rfl,rfl,rfl⟩:=RdP.op3 (OwnP.rd hy1)
   obtain ⟨s3,a4,n4,c4,a5,n5,c5,rfl,rfl,rfl⟩:=RdP.op3 (OwnP.rd hy2)
   obtain ⟨s1,s2⟩:=HS.out l[k] (List.getElem_mem hlt)
   obtain ⟨r1,r2⟩:=mxs_all (Sb 50000) (l.take k) l[0] (HS.out _ (List.getElem_mem h0)) (fun _ h=>HS.out _ (List.mem_of_mem_take h))
   have HK:=Lib.hid (mxs_take hlt l[0])
   generalize mxs (l.take k) l[0]=m at*
   generalize l[k]=y at*
   obtain ⟨p0,p1,p2,hA,hcA⟩:=top_own (OwnE.fstP hD.out) hy1 r1 s1
   obtain ⟨q0,q1,q2,hB',hcB⟩:=top_own (OwnE.sndP hD.out) hy2 r2 s2
   have HA:=Lib.hid hA
   have HB:=Lib.hid hB'
   have HCA:=Lib.hid hcA
   have HCB:=Lib.hid hcB
   obtain ⟨_,_,_,_,_,_,_,rfl,rfl,rfl⟩:=RdP.op3 (OwnP.rd hA)
   obtain ⟨_,_,_,_,_,_,_,rfl,rfl,rfl⟩:=RdP.op3 (OwnP.rd hB')
   have b02:=Ext.trans b1 b2
   have e0:=Ext.cell b02 (hc 0 (by decide))
   have e1:=Ext.cell b02 (hc 1 (by decide))
   have e2:=Ext.cell b02 (hc 2 (by decide))
   have e3:=Ext.cell b02 (hc 3 (by decide))
   have e4:=Ext.cell b02 (hc 4 (by decide))
   have e5:=Ext.cell b02 (hc 5 (by decide))
   simp only [List.getElem?_cons_zero,List.getElem?_cons_succ,Nat.add_zero] at e0 e1 e2 e3 e4 e5
   obtain ⟨w3,hw3,b3,c3,-,-⟩:=bx1 w2 [.bool s0,.slice a1 n1 c1,.slice a2 n2 c2,.bool s3,.slice a4 n4 c4,.slice a5 n5 c5] 48
   have HW:=Lib.hid hw3
   have C3:=Lib.hid c3
   have CM:=Lib.hid (hB.out.ext b3)
   have RM:=Lib.hid (hM.out.ext b3)
   clear hT hc hy1 hy2 s1 s2 r1 r2 hA hB' hcA hcB hw3 c3 hB hM
   go_upto_region 5 with (fail)
   rw [← HW.out]
   clear HW e0 e1 e2 e3 e4 e5 hcl
   generalize Value.bool s0=y0 at*
   generalize Value.slice a1 n1 c1=y1 at*
   generalize Value.slice a2 n2 c2=y2 at*
   generalize Value.bool s3=y3 at*
   generalize Value.slice a4 n4 c4=y4 at*
   generalize Value.slice a5 n5 c5=y5 at*
   have b4:=drew_ext w3
   have XE:=b4
   refine wp_region_noPanic ?_
   refine wp_region_last_drew (st:=11) (S:=fun w'=>(w'.cell? ⟨w1.heap.size,0,none⟩=some (x0)∧w'.cell? ⟨w1.heap.size,1,none⟩=some (x1)∧w'.cell? ⟨w1.heap.size,2,none⟩=some (x2)∧w'.cell? ⟨w1.heap.size,3,none⟩=some (x3)∧w'.cell? ⟨w1.heap.size,4,none⟩=some (x4)∧w'.cell? ⟨w1.heap.size,5,none⟩=some (x5))∧(w'.cell? ⟨w2.heap.size,0,none⟩=some (y0)∧w'.cell? ⟨w2.heap.size,1,none⟩=some (y1)∧w'.cell? ⟨w2.heap.size,2,none⟩=some (y2)∧w'.cell? ⟨w2.heap.size,3,none⟩=some (y3)∧w'.cell? ⟨w2.heap.size,4,none⟩=some (y4)∧w'.cell? ⟨w2.heap.size,5,none⟩=some (y5))) (by kernel_rfl) (⟨(CM.out.ext XE).c6,(C3.out.ext XE).c6⟩) (fun hHeld=>?_)
   refine tkL 0 hHeld ?_
   simp only [jP,jA,jB,jC,jD,jE,jF]
   refine tkL 1 hHeld ?_
   simp only [jP,jA,jB,jC,jD,jE,jF]
   refine tkL 2 hHeld ?_
   simp only [jP,jA,jB,jC,jD,jE,jF]
   refine tkL 3 hHeld ?_
   simp only [jP,jA,jB,jC,jD,jE,jF]
   refine tkL 5 hHeld ?_
   simp only [jP,jA,jB,jC,jD,jE,jF]
   refine tkL 6 hHeld ?_
   simp only [jP,jA,jB,jC,jD,jE,jF]
   refine tkL 7 hHeld ?_
   simp only [jP,jA,jB,jC,jD,jE,jF]
   refine tkL 8 hHeld ?_
   simp only [jP,jA,jB,jC,jD,jE,jF]
   refine rdL 4 (by kernel_rfl) rfl (fun K hK=>?_)
   go_simp
   go_at_call 145;refine (HCA.out _ (Ext.trans b02 (Ext.trans b3 XE))).mono ?_;rintro e w5 ⟨_,rfl,b5,rfl⟩;(first | have XE:=Ext.trans XE b5 | have XE:=Ext.trans (Ext.trans XE (Ext.alloc _ _)) b5)
   go_wp2_with fail
   refine hK.out _ _ (⟨(CM.out.ext XE).c6,(C3.out.ext XE).c6⟩) (fun hHeld=>?_)
   clear hK K
   try simp only [jP,jA,jB,jC,jD,jE,jF]
   refine rdL 9 (by kernel_rfl) rfl (fun K hK=>?_)
   go_simp
   go_at_call 145;refine (HCB.out _ (Ext.trans b02 (Ext.trans b3 XE))).mono ?_;rintro e w6 ⟨_,rfl,b6,rfl⟩;(first | have XE:=Ext.trans XE b6 | have XE:=Ext.trans (Ext.trans XE (Ext.alloc _ _)) b6)
   go_wp2_with fail
   refine hK.out _ _ (⟨(CM.out.ext XE).c6,(C3.out.ext XE).c6⟩) (fun hHeld=>?_)
   clear hK K
   try simp only [jP,jA,jB,jC,jD,jE,jF]
   refine tkL 10 hHeld ?_
   simp only [jP,jA,jB,jC,jD,jE,jF]
   obtain ⟨_,_,_,_,_,_,j0,j1,j2,j3,j4,j5,g0,g1,g2,g3,g4,g5⟩:=(RM.out.ext XE).c6
   refine wpAnyL_ready (rs:=[11]) (by kernel_rfl) (by simp) ?_
   refine AllReadyL.last (o:=_) rfl (fun K hK=>?_)
   go_simp
   refine hK.out _ _ ?_
   clear hK K
   try simp only [jP,jA,jB,jC,jD,jE,jF]
   refine wpAnyL_done (by kernel_rfl) ?_ _
   refine NoPanic.normal ?_
   go_wp2_with fail
   go_roundw
   case rel=>
    have X:=Ext.trans b3 XE
    exact ⟨k+1,_,_,_,_,_,_,by go_num,by omega,put6_below (Ext.trans b2 X) (Nat.le_refl _) _ _ _ _ _ _,(Bx.putL_at (RM.out.ext XE) [_,_,_,_,_,_] rfl).1,(Bx.putL_at (RM.out.ext XE) [_,_,_,_,_,_] rfl).2,by rw [HK.out];exact OwnE.mk6 HA.out HB.out⟩
   case measure=>simp [intOf] <;> omega
  ·obtain rfl:k=l.length:=by omega
   have HX:Hid (mxs (l.take l.length) l[0]=mxs l l[0]):=by show _=_;rw [List.take_length]
   obtain ⟨k0,k1,k2,k3,k4,k5⟩:=hB.out.c6
   obtain ⟨s0,a1,n1,c1,a2,n2,c2,s3,a4,n4,c4,a5,n5,c5,hsh,-⟩:=RdE.op (OwnE.rd hD.out)
   simp only [Value.agg.injEq,Array.mk.injEq,List.cons.injEq,and_true] at hsh
   obtain ⟨rfl,rfl,rfl,rfl,rfl,rfl⟩:=hsh
   obtain ⟨_,_,_,_,_,_,j0,j1,j2,j3,j4,j5,g0,g1,g2,g3,g4,g5⟩:=(R1.out.ext hx).c6
   go_wp2_with fail
   refine bodyPost_ret (v:=.agg #[.bool s0,.slice a1 n1 c1,.slice a2 n2 c2,.bool s3,.slice a4 n4 c4,.slice a5 n5 c5]) (by simp [results,Try.results119,go_sem,j0,j1,j2,j3,j4,j5]) rfl ?_
   exact hR.out _ _ (Gives.mk (put6_below (Ext.trans b1 b2) (Nat.le_refl _) _ _ _ _ _ _) (by rw [← HX.out];exact hD.out.ext (put6_below (Ext.trans b1 b2) (Nat.le_refl _) _ _ _ _ _ _)))
set_option maxHeartbeats 2000000 in
set_option linter.unusedSimpArgs false in
theorem r17weigh_own {w:World} {v0 v1 v2:Value} {l:List Rat} {m:List (Rat × Rat)} (hv:RdRow 3 RdP w v0 l) (hx:RdRow 6 RdEp w v2 m) (heq:l.length=m.length) {q:Rat} (hq:OwnP 4 0 w v1 q)
  (sl:∀ p∈l,Sz 8 p) {C:Nat} (sm:∀ p∈m,Sz C p.1∧Sz C p.2) (sq:Sz 8 q) (hC:C≤1000) (hCL:8+(C+9)*l.length≤1500):
  Calls Try.prog 23 #[v0,v1,v2] w (Gives w fun v' w'=>OwnE 4 0 w' v' (wfold (l.zip m) (q,q)).1 (wfold (l.zip m) (q,q)).2):=by
 refine via fun R hR=>?_
 have HV:=Lib.hid hv
 have HX:=Lib.hid hx
 have HC:=Lib.hid hC
 have HCL:=Lib.hid hCL
 have HZ:Hid (∀ z∈l.zip m,Sz 8 z.1∧Sz C z.2.1∧Sz C z.2.2):=fun z hz=>⟨sl z.1 (List.of_mem_zip hz).1,(sm z.2 (List.of_mem_zip hz).2)⟩
 have HLZ:Hid ((l.zip m).length=l.length):=by show _=_;rw [List.length_zip];omega
 have HSQ:=Lib.hid sq
 have HEQ:=Lib.hid heq
 obtain ⟨a,c,rfl,hlc,hcm⟩:=hv.shape
 obtain ⟨a',c',rfl,hlc',hcm'⟩:=hx.shape
 unfold maxLen at hcm hcm'
 obtain ⟨s0,a1,n1,c1,a2,n2,c2,rfl,HQ⟩:=hq.op
 obtain ⟨w1,hw1,b1,k1,-,-,-,-⟩:=bx2 w [.bool s0,.slice a1 n1 c1,.slice a2 n2 c2] [.bool false,.slice none 0 0,.slice none 0 0,.bool false,.slice none 0 0,.slice none 0 0] 46 48
 have HW:=Lib.hid hw1
 have R1:Hid (Rt w1 (w.heap.size+1) 6 48):=by
  rw [hw1]
  have:=Rt.new (w.alloc (.cells #[.bool s0,.slice a1 n1 c1,.slice a2 n2 c2] 46)) [.bool false,.slice none 0 0,.slice none 0 0,.bool false,.slice none 0 0,.slice none 0 0] 48
  rw [show (w.alloc (.cells #[.bool s0,.slice a1 n1 c1,.slice a2 n2 c2] 46)).heap.size=w.heap.size+1 by simp] at this
  exact this
 obtain ⟨j0,j1,j2⟩:=k1.c3
 clear hv hx sl sm sq hq hw1 k1 heq hC hCL
 go_enter Try.func23,Try.ntmps23
 go_upto_region 1 with (fail)
 rw [← HW.out]
 clear HW
 go_wp2_with fail
 clear j0 j1 j2
 go_loopw [15] (fun i wr=>∃ (k:Nat) (x0 x1 x2 x3 x4 x5:Value),i=.int .i64 k∧k≤l.length∧Ext w1 wr∧Hid (Bx wr w1.heap.size [x0,x1,x2,x3,x4,x5])∧Hid (Rt wr w1.heap.size 6 48)∧Hid (OwnE 4 0 wr (.agg #[x0,x1,x2,x3,x4,x5]) (wfold ((l.zip m).take k) (q,q)).1 (wfold ((l.zip m).take k) (q,q)).2)) (fun i _=>l.length - (intOf i).toNat)
 case atStart=>exact ⟨0,_,_,_,_,_,_,rfl,Nat.zero_le _,Ext.alloc _ _,Bx.new w1 [_,_,_,_,_,_] _,Rt.new w1 [_,_,_,_,_,_] _,(OwnE.mk6 (HQ.out) (HQ.out)).ext (Ext.trans b1 (Ext.alloc _ _))⟩
 case round=>
  obtain ⟨k,x0,x1,x2,x3,x4,x5,rfl,hk,hx,hB,hM,hD⟩:=hrel
  have b2:=hx
  generalize wr=w2 at*
  have hsz:=hx.size
  by_cases hlt:k < l.length
  ·have hltm:k < m.length:=by have:=HEQ.out;omega
   obtain ⟨b,off,cs,rfl,hcl,hT,hc⟩:=HV.out.at (by decide) k hlt
   obtain ⟨b',off',cs',rfl,hcl',hT',hc'⟩:=HX.out.at (by decide) k hltm
   obtain ⟨aa,ac,ab,ad,rfl⟩:=cells_P hT
   obtain ⟨y0,y1,y2,y3,y4,y5,rfl,hy1,hy2⟩:=cells_E hT'
   have hz:k < (l.zip m).length:=by rw [HLZ.out];exact hlt
   obtain ⟨s1,s2,s3⟩:=HZ.out _ (List.getElem_mem hz)
   obtain ⟨r1,r2⟩:=wfold_sz ((l.zip m).take k) (q,q) 8 (fun z h=>HZ.out z (List.mem_of_mem_take h)) ⟨HSQ.out,HSQ.out⟩
   have hle:8+(C+9)*((l.zip m).take k).length≤1500:=Nat.le_trans (Nat.add_le_add_left (Nat.mul_le_mul_left _ (by rw [List.length_take];have:=HLZ.out;omega)) _) HCL.out
   have HK:=Lib.hid (wfold_take hz (q,q))
   have S1:=Lib.hid s1
   have S2:=Lib.hid s2
   have S3:=Lib.hid s3
   have R8:=Lib.hid (And.intro (r1.le hle) (r2.le hle))
   have hzk:(l.zip m)[k]=(l[k],m[k]):=List.getElem_zip
   rw [hzk] at HK S1 S2 S3
   generalize wfold ((l.zip m).take k) (q,q)=f at*
   have HP:=Lib.hid hT
   have HY:Hid (RdE w (.agg #[y0,y1,y2,y3,y4,y5]) m[k].1 m[k].2):=⟨_,_,_,_,_,_,rfl,hy1,hy2⟩
   generalize l[k]=p at*
   generalize m[k]=y at*
   have b02:=Ext.trans b1 b2
   have KY:Hid (Bo w b' (off'+k*6) [y0,y1,y2,y3,y4,y5]):=Bo.of hc'
   have KP0:Hid (Bo w b (off+k*3) [.bool (decide (p.num < 0)),.slice aa (bitsOf p.num.natAbs).length ac,.slice ab (bitsOf p.den).length ad]):=Bo.of hc
   generalize Value.bool (decide (p.num < 0))=z0 at*
   generalize Value.slice aa (bitsOf p.num.natAbs).length ac=z1 at*
   generalize Value.slice ab (bitsOf p.den).length ad=z2 at*
   have CY:=Lib.hid (Bo.ext KY.out b02)
   have CP:=Lib.hid (Bo.ext KP0.out b02)
   have LY:=Lib.hid CY.out.lt
   have LP:=Lib.hid CP.out.lt
   clear hT hc hT' hc' hy1 hy2 s1 s2 s3 r1 r2 hcl hcl' hzk KY KP0
   go_upto_region 5 with (fail)
   go_cut [9] (fun s9 wx=>∃ (E:Nat) (h0 h1 h2 h3 h4 h5:Value),s9=.pointer (some ⟨E,0,none⟩)∧Ext w2 wx∧(Bx wx E [h0,h1,h2,h3,h4,h5]∧Rt wx E 6 48)∧OwnE 4 0 wx (.agg #[h0,h1,h2,h3,h4,h5]) (mn (p*y.1) (p*y.2)) (mx (p*y.1) (p*y.2)))
   case first=>
    refine wp_region_noPanic ?_
    refine wp_region_held_drew (S:=fun w'=>(w'.cell? ⟨b,off+k*3,none⟩=some (z0)∧w'.cell? ⟨b,off+k*3+1,none⟩=some (z1)∧w'.cell? ⟨b,off+k*3+2,none⟩=some (z2))∧(w'.cell? ⟨b',off'+k*6,none⟩=some (y0)∧w'.cell? ⟨b',off'+k*6+1,none⟩=some (y1)∧w'.cell? ⟨b',off'+k*6+2,none⟩=some (y2)∧w'.cell? ⟨b',off'+k*6+3,none⟩=some (y3)∧w'.cell? ⟨b',off'+k*6+4,none⟩=some (y4)∧w'.cell? ⟨b',off'+k*6+5,none⟩=some (y5))) (by kernel_rfl) (⟨(CP.out.ext (drew_ext w2)).c3,(CY.out.ext (drew_ext w2)).c6⟩) (fun hHeld=>?_)
    refine tkH 0 hHeld ?_
    simp only [jP,jA,jB,jC,jD,jE,jF]
    refine tkH 1 hHeld ?_
    simp only [jP,jA,jB,jC,jD,jE,jF]
    refine tkH 4 hHeld ?_
    simp only [jP,jA,jB,jC,jD,jE,jF]
    refine tkH 5 hHeld ?_
    simp only [jP,jA,jB,jC,jD,jE,jF]
    refine tkH 2 hHeld ?_
    simp only [jP,jA,jB,jC,jD,jE,jF]
    refine tkH 6 hHeld ?_
    simp only [jP,jA,jB,jC,jD,jE,jF]
    refine tkH 3 hHeld ?_
    simp only [jP,jA,jB,jC,jD,jE,jF]
    refine tkH 7 hHeld ?_
    simp only [jP,jA,jB,jC,jD,jE,jF]
    refine anyH_cap fun O Q9 AA hO hQ hA=>?_
    obtain ⟨SS,hSS⟩:∃ SS:World→Prop,Hid (SS=fun w'=>(w'.cell? ⟨b,off+k*3,none⟩=some (z0)∧w'.cell? ⟨b,off+k*3+1,none⟩=some (z1)∧w'.cell? ⟨b,off+k*3+2,none⟩=some (z2))∧(w'.cell? ⟨b',off'+k*6,none⟩=some (y0)∧w'.cell? ⟨b',off'+k*6+1,none⟩=some (y1)∧w'.cell? ⟨b',off'+k*6+2,none⟩=some (y2)∧w'.cell? ⟨b',off'+k*6+3,none⟩=some (y3)∧w'.cell? ⟨b',off'+k*6+4,none⟩=some (y4)∧w'.cell? ⟨b',off'+k*6+5,none⟩=some (y5))):=⟨_,rfl⟩
    have KP:Hid (∀ wv,Ext w2 wv→SS wv):=fun wv XE=>by rw [hSS.out];exact ⟨(CP.out.ext XE).c3,(CY.out.ext XE).c6⟩
    have L1_9:∀ (wv:World) (v8:Value) (B9:Nat),Hid (Ext w2 wv)→Hid (OwnE 4 0 wv v8 (mn (p*y.1) (p*y.2)) (mx (p*y.1) (p*y.2)))→Hid (Rt wv B9 6 48)→Hid (w2.heap.size≤B9)→wpAnyH Try.prog .any O Q9 SS 1 #[true,true,true,true,true,true,true,true,true,true,false] ((AA.put (some 26) v8).put (some 9) (.pointer (some ⟨B9,0,none⟩))) wv:=by
     intro wv v8 B9 hX p8 r9 s9
     have hO1:=hO.out
     have hQ1:=hQ.out
     have hA1:=hA.out
     subst hO1
     subst hQ1
     subst hA1
     have XE:=hX.out
     have hHeld:=KP.out _ XE
     have hS1:=hSS.out
     subst hS1
     try simp only [jP,jA,jB,jC,jD,jE,jF]
     have k0_9:b≠B9:=by have h1:=s9.out;have hz0:=LP.out;have hz1:=LY.out;omega
     have k1_9:b'≠B9:=by have h1:=s9.out;have hz0:=LP.out;have hz1:=LY.out;omega
     obtain ⟨_,_,_,_,_,_,i9_0,i9_1,i9_2,i9_3,i9_4,i9_5,f9_0,f9_1,f9_2,f9_3,f9_4,f9_5⟩:=r9.out.rm.c6
     obtain ⟨_,_,_,_,_,_,_,_,_,_,_,_,_,_,rfl,OO⟩:=p8.out.op
     refine rdH 10 (by kernel_rfl) rfl (fun K hK=>?_)
     go_simp
     refine hK.out _ _ (⟨((CP.out.ext XE).putL k0_9 0 [_,_,_,_,_,_]).c3,((CY.out.ext XE).putL k1_9 0 [_,_,_,_,_,_]).c6⟩) (fun hHeld=>?_)
     clear hK K
     try simp only [jP,jA,jB,jC,jD,jE,jF]
     refine wpAnyH_done (by kernel_rfl) ?_ _
     refine NoPanic.normal ?_
     go_wp2_with fail
     go_meet
     exact ⟨_,_,_,_,_,_,_,rfl,put6_below hX.out s9.out _ _ _ _ _ _,r9.out.putL_at [_,_,_,_,_,_] rfl,OwnE.putS OO.out r9.out (by decide) 0 [_,_,_,_,_,_]⟩
    have L0_9:∀ (wv:World) (B9:Nat),Hid (Ext w2 wv)→Hid (Rt wv B9 6 48)→Hid (w2.heap.size≤B9)→wpAnyH Try.prog .any O Q9 SS 2 #[true,true,true,true,true,true,true,true,false,true,false] (AA.put (some 9) (.pointer (some ⟨B9,0,none⟩))) wv:=by
     intro wv B9 hX r9 s9
     have hO1:=hO.out
     have hQ1:=hQ.out
     have hA1:=hA.out
     subst hO1
     subst hQ1
     subst hA1
     have XE:=hX.out
     try simp only [jP,jA,jB,jC,jD,jE,jF]
     refine rdH 8 (by kernel_rfl) rfl (fun K hK=>?_)
     go_simp
     go_at_call 84
     refine (r17scale_any (HP.out.ext (Ext.trans b02 XE)) (HY.out.ext (Ext.trans b02 XE)) (S1.out.bits.le (by decide)) (S2.out.bits.le (by have:=HC.out;omega)) (S3.out.bits.le (by have:=HC.out;omega)) ((S1.out.mul S2.out).bits.le (by have:=HC.out;omega)) ((S1.out.mul S3.out).bits.le (by have:=HC.out;omega))).mono ?_
     rintro e wn ⟨vn,rfl,bn,on⟩
     go_wp2_with fail
     refine hK.out _ _ (KP.out _ (Ext.trans XE bn)) (fun _=>?_)
     clear hK K
     try simp only [jP,jA,jB,jC,jD,jE,jF]
     exact wpAnyH_at (L1_9 wn vn B9 (Ext.trans XE bn) (on.mono (Nat.zero_le _)) (r9.out.ext bn) s9) (by kernel_rfl) (by kernel_rfl) (by kernel_rfl)
    have L1_:∀ (wv:World) (v8:Value),Hid (Ext w2 wv)→Hid (OwnE 4 0 wv v8 (mn (p*y.1) (p*y.2)) (mx (p*y.1) (p*y.2)))→wpAnyH Try.prog .any O Q9 SS 2 #[true,true,true,true,true,true,true,true,true,false,false] (AA.put (some 26) v8) wv:=by
     intro wv v8 hX p8
     have hO1:=hO.out
     have hQ1:=hQ.out
     have hA1:=hA.out
     subst hO1
     subst hQ1
     subst hA1
     have XE:=hX.out
     try simp only [jP,jA,jB,jC,jD,jE,jF]
     refine rdH 9 (by kernel_rfl) rfl (fun K hK=>?_)
     go_simp
     refine hK.out _ _ (KP.out _ (Ext.trans XE (Ext.alloc _ _))) (fun _=>?_)
     clear hK K
     try simp only [jP,jA,jB,jC,jD,jE,jF]
     exact wpAnyH_at (L1_9 _ v8 wv.heap.size (Ext.trans XE (Ext.alloc wv (.cells [.bool false,.slice none 0 0,.slice none 0 0,.bool false,.slice none 0 0,.slice none 0 0].toArray 48))) (p8.out.ext (Ext.alloc wv (.cells [.bool false,.slice none 0 0,.slice none 0 0,.bool false,.slice none 0 0,.slice none 0 0].toArray 48))) (Rt.new wv [.bool false,.slice none 0 0,.slice none 0 0,.bool false,.slice none 0 0,.slice none 0 0] 48) (Below.size XE)) (by kernel_rfl) (by kernel_rfl) (by kernel_rfl)
    have L0_:∀ (wv:World),Hid (Ext w2 wv)→wpAnyH Try.prog .any O Q9 SS 3 #[true,true,true,true,true,true,true,true,false,false,false] AA wv:=by
     intro wv hX
     have hO1:=hO.out
     have hQ1:=hQ.out
     have hA1:=hA.out
     subst hO1
     subst hQ1
     subst hA1
     have XE:=hX.out
     try simp only [jP,jA,jB,jC,jD,jE,jF]
     refine wpAnyH_ready (rs:=[8,9]) (by kernel_rfl) (by simp) ?_
     refine AllReadyH.cons (o:=_) rfl (fun K hK=>?_) (AllReadyH.cons (o:=_) rfl (fun K hK=>?_) AllReadyH.nil)
     ·skip
      go_simp
      go_at_call 84
      refine (r17scale_any (HP.out.ext (Ext.trans b02 XE)) (HY.out.ext (Ext.trans b02 XE)) (S1.out.bits.le (by decide)) (S2.out.bits.le (by have:=HC.out;omega)) (S3.out.bits.le (by have:=HC.out;omega)) ((S1.out.mul S2.out).bits.le (by have:=HC.out;omega)) ((S1.out.mul S3.out).bits.le (by have:=HC.out;omega))).mono ?_
      rintro e wn ⟨vn,rfl,bn,on⟩
      go_wp2_with fail
      refine hK.out _ _ (KP.out _ (Ext.trans XE bn)) (fun _=>?_)
      clear hK K
      try simp only [jP,jA,jB,jC,jD,jE,jF]
      exact wpAnyH_at (L1_ wn vn (Ext.trans XE bn) (on.mono (Nat.zero_le _))) (by kernel_rfl) (by kernel_rfl) (by kernel_rfl)
     ·skip
      go_simp
      refine hK.out _ _ (KP.out _ (Ext.trans XE (Ext.alloc _ _))) (fun _=>?_)
      clear hK K
      try simp only [jP,jA,jB,jC,jD,jE,jF]
      exact wpAnyH_at (L0_9 _ wv.heap.size (Ext.trans XE (Ext.alloc wv (.cells [.bool false,.slice none 0 0,.slice none 0 0,.bool false,.slice none 0 0,.slice none 0 0].toArray 48))) (Rt.new wv [.bool false,.slice none 0 0,.slice none 0 0,.bool false,.slice none 0 0,.slice none 0 0] 48) (Below.size XE)) (by kernel_rfl) (by kernel_rfl) (by kernel_rfl)
    have hO1:=hO.out
    have hQ1:=hQ.out
    have hA1:=hA.out
    subst hO1
    subst hQ1
    subst hA1
    have hS1:=hSS.out
    subst hS1
    exact wpAnyH_at (L0_ w2.drew (drew_ext w2)) (by kernel_rfl) (by kernel_rfl) (by kernel_rfl)
   case rest=>
    obtain ⟨E,h0,h1,h2,h3,h4,h5,rfl,b3,hE,oE⟩:=hcut
    generalize wc=w3 at*
    have C3:=Lib.hid hE.1
    have OE:=Lib.hid oE
    have CM:=Lib.hid (hB.out.ext b3)
    have RM:=Lib.hid (hM.out.ext b3)
    have FD:=Lib.hid (hD.out.rd.ext b3)
    have SN:Hid (Sz (8+C) (mn (p*y.1) (p*y.2))):=mn_cases (Sz (8+C)) (S1.out.mul S2.out) (S1.out.mul S3.out)
    have SX:Hid (Sz (8+C) (mx (p*y.1) (p*y.2))):=mx_cases (Sz (8+C)) (S1.out.mul S2.out) (S1.out.mul S3.out)
    clear hE oE hB hM CY CP LY LP
    go_upto_region 6 with (fail)
    generalize mn (p*y.1) (p*y.2)=n1 at*
    generalize mx (p*y.1) (p*y.2)=n2 at*
    have b4:=drew_ext w3
    have XE:=b4
    refine wp_region_noPanic ?_
    refine wp_region_last_drew (st:=11) (S:=fun w'=>(w'.cell? ⟨w1.heap.size,0,none⟩=some (x0)∧w'.cell? ⟨w1.heap.size,1,none⟩=some (x1)∧w'.cell? ⟨w1.heap.size,2,none⟩=some (x2)∧w'.cell? ⟨w1.heap.size,3,none⟩=some (x3)∧w'.cell? ⟨w1.heap.size,4,none⟩=some (x4)∧w'.cell? ⟨w1.heap.size,5,none⟩=some (x5))∧(w'.cell? ⟨E,0,none⟩=some (h0)∧w'.cell? ⟨E,1,none⟩=some (h1)∧w'.cell? ⟨E,2,none⟩=some (h2)∧w'.cell? ⟨E,3,none⟩=some (h3)∧w'.cell? ⟨E,4,none⟩=some (h4)∧w'.cell? ⟨E,5,none⟩=some (h5))) (by kernel_rfl) (⟨(CM.out.ext XE).c6,(C3.out.ext XE).c6⟩) (fun hHeld=>?_)
    refine tkL 0 hHeld ?_
    simp only [jP,jA,jB,jC,jD,jE,jF]
    refine tkL 1 hHeld ?_
    simp only [jP,jA,jB,jC,jD,jE,jF]
    refine tkL 2 hHeld ?_
    simp only [jP,jA,jB,jC,jD,jE,jF]
    refine tkL 3 hHeld ?_
    simp only [jP,jA,jB,jC,jD,jE,jF]
    refine tkL 5 hHeld ?_
    simp only [jP,jA,jB,jC,jD,jE,jF]
    refine tkL 6 hHeld ?_
    simp only [jP,jA,jB,jC,jD,jE,jF]
    refine tkL 7 hHeld ?_
    simp only [jP,jA,jB,jC,jD,jE,jF]
    refine tkL 8 hHeld ?_
    simp only [jP,jA,jB,jC,jD,jE,jF]
    refine rdL 4 (by kernel_rfl) rfl (fun K hK=>?_)
    go_simp
    go_at_call 85;refine (r5add_any ((RdE.fst3 FD.out).ext XE) ((RdE.fst3 OE.out.rd).ext XE) (R8.out.1.bits.le (by decide)) (SN.out.bits.le (by have:=HC.out;omega))).mono ?_;rintro e w5 ⟨_,rfl,b5,n5,d5,rfl,on5,od5⟩;have ON5:=Lib.hid on5;have OD5:=Lib.hid od5;clear on5 od5;obtain ⟨an5,cn5,rfl,-,-,-,-⟩:=ON5.out.rd.shape;obtain ⟨ad5,cd5,rfl,-,-,-,-⟩:=OD5.out.rd.shape;(first | have XE:=Ext.trans XE b5 | have XE:=Ext.trans (Ext.trans XE (Ext.alloc _ _)) b5)
    go_wp2_with fail
    refine hK.out _ _ (⟨(CM.out.ext XE).c6,(C3.out.ext XE).c6⟩) (fun hHeld=>?_)
    clear hK K
    try simp only [jP,jA,jB,jC,jD,jE,jF]
    refine rdL 9 (by kernel_rfl) rfl (fun K hK=>?_)
    go_simp
    go_at_call 85;refine (r5add_any ((RdE.snd3 FD.out).ext XE) ((RdE.snd3 OE.out.rd).ext XE) (R8.out.2.bits.le (by decide)) (SX.out.bits.le (by have:=HC.out;omega))).mono ?_;rintro e w6 ⟨_,rfl,b6,n6,d6,rfl,on6,od6⟩;have ON6:=Lib.hid on6;have OD6:=Lib.hid od6;clear on6 od6;obtain ⟨an6,cn6,rfl,-,-,-,-⟩:=ON6.out.rd.shape;obtain ⟨ad6,cd6,rfl,-,-,-,-⟩:=OD6.out.rd.shape;(first | have XE:=Ext.trans XE b6 | have XE:=Ext.trans (Ext.trans XE (Ext.alloc _ _)) b6)
    go_wp2_with fail
    refine hK.out _ _ (⟨(CM.out.ext XE).c6,(C3.out.ext XE).c6⟩) (fun hHeld=>?_)
    clear hK K
    try simp only [jP,jA,jB,jC,jD,jE,jF]
    refine tkL 10 hHeld ?_
    simp only [jP,jA,jB,jC,jD,jE,jF]
    obtain ⟨_,_,_,_,_,_,j0,j1,j2,j3,j4,j5,g0,g1,g2,g3,g4,g5⟩:=(RM.out.ext XE).rm.c6
    refine wpAnyL_ready (rs:=[11]) (by kernel_rfl) (by simp) ?_
    refine AllReadyL.last (o:=_) rfl (fun K hK=>?_)
    go_simp
    refine hK.out _ _ ?_
    clear hK K
    try simp only [jP,jA,jB,jC,jD,jE,jF]
    refine wpAnyL_done (by kernel_rfl) ?_ _
    refine NoPanic.normal ?_
    go_wp2_with fail
    go_roundw
    case rel=>
     have X:=Ext.trans b3 XE
     exact ⟨k+1,_,_,_,_,_,_,by go_num,by omega,put6_below (Ext.trans b2 X) (Nat.le_refl _) _ _ _ _ _ _,((RM.out.ext XE).putL_at [_,_,_,_,_,_] rfl).1,((RM.out.ext XE).putL_at [_,_,_,_,_,_] rfl).2,by rw [HK.out];exact (OwnE.putS ⟨_,_,_,_,rfl,(ON5.out.ext b6).mono (Nat.zero_le _),(OD5.out.ext b6).mono (Nat.zero_le _),ON6.out.mono (Nat.zero_le _),OD6.out.mono (Nat.zero_le _)⟩ (RM.out.ext XE) (by decide) 0 [_,_,_,_,_,_])⟩
    case measure=>simp [intOf] <;> omega
  ·obtain rfl:k=l.length:=by omega
   have HE:Hid (wfold ((l.zip m).take l.length) (q,q)=wfold (l.zip m) (q,q)):=by show _=_;rw [List.take_of_length_le (by rw [HLZ.out];exact Nat.le_refl _)]
   obtain ⟨k0,k1,k2,k3,k4,k5⟩:=hB.out.c6
   obtain ⟨s0,a1,n1,c1,a2,n2,c2,s3,a4,n4,c4,a5,n5,c5,hsh,-⟩:=RdE.op (OwnE.rd hD.out)
   simp only [Value.agg.injEq,Array.mk.injEq,List.cons.injEq,and_true] at hsh
   obtain ⟨rfl,rfl,rfl,rfl,rfl,rfl⟩:=hsh
   obtain ⟨_,_,_,_,_,_,j0,j1,j2,j3,j4,j5,g0,g1,g2,g3,g4,g5⟩:=(R1.out.ext hx).rm.c6
   go_wp2_with fail
   refine bodyPost_ret (v:=.agg #[.bool s0,.slice a1 n1 c1,.slice a2 n2 c2,.bool s3,.slice a4 n4 c4,.slice a5 n5 c5]) (by simp [results,Try.results23,go_sem,j0,j1,j2,j3,j4,j5]) rfl ?_
   rw [← HE.out] at hR
   refine hR.out _ _ (Gives.mk (put6_below (Ext.trans b1 b2) (Nat.le_succ _) _ _ _ _ _ _) ?_)
   exact OwnE.putS hD.out (R1.out.ext hx) (by decide) 0 [_,_,_,_,_,_]
theorem top_ov {w:World} {va vb:Value} {p q:Rat} (hp:OwnP 4 0 w va p) (hq:OwnP 4 0 w vb q) (sp:Sb 50000 p) (sq:Sb 50000 q):
  Calls Try.prog 145 #[va,vb] w (Gives w fun v' w'=>OwnP 4 0 w' v' (mx p q)):=by
 refine (top_val hp.rd hq.rd sp sq).mono ?_
 rintro e w' ⟨_,rfl,b,rfl⟩
 refine Gives.mk b ?_
 unfold mx
 split
 ·exact hp.ext b
 ·exact hq.ext b
theorem shape_PO {w:World} {v:Value} {q:Rat} (h:OwnP 4 0 w v q):∃ a n b d,v=.agg #[.bool (decide (q.num < 0)),.slice a (bitsOf q.num.natAbs).length n,.slice b (bitsOf q.den).length d]:=by
 obtain ⟨n,d,rfl,hn,hd⟩:=h
 obtain ⟨an,cn,rfl,-,-,-,-⟩:=hn.rd.shape
 obtain ⟨ad,cd,rfl,-,-,-,-⟩:=hd.rd.shape
 exact ⟨_,_,_,_,rfl⟩
set_option maxHeartbeats 1000000 in
set_option linter.unusedSimpArgs false in
theorem r17relu_own {w:World} {va:Value} {a b:Rat} (hp:OwnE 4 0 w va a b) (sa:Sb 50000 a) (sb:Sb 50000 b):
  Calls Try.prog 118 #[va] w (Gives w fun v' w'=>OwnE 4 0 w' v' (mx a 0) (mx b 0)):=by
 refine via fun R hR=>?_
 obtain ⟨x0,x1,x2,x3,x4,x5,rfl,h1,h2⟩:=hp.op6
 have sz:Sb 50000 (0:Rat):=⟨by decide +kernel,by decide +kernel⟩
 have HA:Hid (∀ (w1 w2:World) (v:Value),Ext w w1→OwnP 4 0 w1 v 0→Calls Try.prog 145 #[.agg #[x0,x1,x2],v] w1 (Gives w1 fun v' w'=>OwnP 4 0 w' v' (mx a 0))):=
  fun w1 _ v X h=>top_ov (h1.ext X) h sa sz
 have HB:Hid (∀ (w1 w2:World) (v:Value),Ext w w1→OwnP 4 0 w1 v 0→Calls Try.prog 145 #[.agg #[x3,x4,x5],v] w1 (Gives w1 fun v' w'=>OwnP 4 0 w' v' (mx b 0))):=
  fun w1 _ v X h=>top_ov (h2.ext X) h sb sz
 have HI:Hid (∀ w1:World,w.heap.size+1 < w1.heap.size→Calls Try.prog 41 #[.int .i64 0] w1 (Gives w1 fun v' w'=>OwnP 4 0 w' v' 0)):=fun w1 h=>by
  refine (r5int_any (u:=0) (by omega)).mono ?_
  rintro e w' ⟨_,rfl,b,o⟩
  exact Gives.mk b (o.mono (Nat.zero_le _))
 generalize mx a 0=A at*
 generalize mx b 0=B at*
 obtain ⟨w1,hw1,b1,c1,-,-,r2,z⟩:=bx2 w [x0,x1,x2,x3,x4,x5] [.bool false,.slice none 0 0,.slice none 0 0,.bool false,.slice none 0 0,.slice none 0 0] 48 48
 have C1:=Lib.hid c1
 have RR:Hid (Rm w1 (w.heap.size+1) 6):=r2
 have RT:Hid (Rt w1 (w.heap.size+1) 6 48):=by
  show Rt _ _ _ _
  rw [hw1]
  have:=Rt.new (w.alloc (.cells #[x0,x1,x2,x3,x4,x5] 48)) [.bool false,.slice none 0 0,.slice none 0 0,.bool false,.slice none 0 0,.slice none 0 0] 48
  simpa using this
 have HW:=Lib.hid hw1
 have SZ:Hid (w.heap.size+1 < w1.heap.size):=by show _ < _;omega
 clear h1 h2 sa sb sz c1 r2 hw1 z
 go_enter Try.func118,Try.ntmps118
 go_upto_region 1 with (fail)
 rw [← HW.out]
 clear HW
 have b2:=drew_ext w1
 have XE:=b2
 refine wp_region_noPanic ?_
 refine wp_region_held_drew (S:=fun w'=>w'.cell? ⟨w.heap.size,0,none⟩=some (x0)∧w'.cell? ⟨w.heap.size,1,none⟩=some (x1)∧w'.cell? ⟨w.heap.size,2,none⟩=some (x2)∧w'.cell? ⟨w.heap.size,3,none⟩=some (x3)∧w'.cell? ⟨w.heap.size,4,none⟩=some (x4)∧w'.cell? ⟨w.heap.size,5,none⟩=some (x5)) (by kernel_rfl) ((C1.out.ext XE).c6) (fun hHeld=>?_)
 refine tkH 0 hHeld ?_
 simp only [jP,jA,jB,jC,jD,jE,jF]
 refine tkH 1 hHeld ?_
 simp only [jP,jA,jB,jC,jD,jE,jF]
 refine tkH 4 hHeld ?_
 simp only [jP,jA,jB,jC,jD,jE,jF]
 refine tkH 5 hHeld ?_
 simp only [jP,jA,jB,jC,jD,jE,jF]
 refine rdH 2 (by kernel_rfl) rfl (fun K hK=>?_)
 go_simp
 go_at_call 41;refine (HI.out _ (Nat.lt_of_lt_of_le SZ.out b2.size)).mono ?_;rintro e w3 ⟨v3,rfl,b3,o3⟩;have O3:=Lib.hid o3;clear o3;(first | have XE:=Ext.trans XE b3 | have XE:=Ext.trans (Ext.trans XE (Ext.alloc _ _)) b3)
 go_wp2_with fail
 refine hK.out _ _ ((C1.out.ext XE).c6) (fun hHeld=>?_)
 clear hK K
 try simp only [jP,jA,jB,jC,jD,jE,jF]
 refine rdH 3 (by kernel_rfl) rfl (fun K hK=>?_)
 go_simp
 go_at_call 145;refine (HA.out _ w3 _ (Ext.trans b1 (Ext.trans b2 b3)) O3.out).mono ?_;rintro e w4 ⟨v4,rfl,b4,o4⟩;have O4:=Lib.hid o4;clear o4;(first | have XE:=Ext.trans XE b4 | have XE:=Ext.trans (Ext.trans XE (Ext.alloc _ _)) b4);obtain ⟨an4,cn4,ad4,cd4,rfl⟩:=shape_PO O4.out
 go_wp2_with fail
 refine hK.out _ _ ((C1.out.ext XE).c6) (fun hHeld=>?_)
 clear hK K
 try simp only [jP,jA,jB,jC,jD,jE,jF]
 refine rdH 6 (by kernel_rfl) rfl (fun K hK=>?_)
 go_simp
 go_at_call 41;refine (HI.out _ (Nat.lt_of_lt_of_le SZ.out (Ext.trans b2 (Ext.trans b3 b4)).size)).mono ?_;rintro e w5 ⟨v5,rfl,b5,o5⟩;have O5:=Lib.hid o5;clear o5;(first | have XE:=Ext.trans XE b5 | have XE:=Ext.trans (Ext.trans XE (Ext.alloc _ _)) b5)
 go_wp2_with fail
 refine hK.out _ _ ((C1.out.ext XE).c6) (fun hHeld=>?_)
 clear hK K
 try simp only [jP,jA,jB,jC,jD,jE,jF]
 refine rdH 7 (by kernel_rfl) rfl (fun K hK=>?_)
 go_simp
 go_at_call 145;refine (HB.out _ w5 _ (Ext.trans b1 (Ext.trans b2 (Ext.trans b3 (Ext.trans b4 b5)))) O5.out).mono ?_;rintro e w6 ⟨v6,rfl,b6,o6⟩;have O6:=Lib.hid o6;clear o6;(first | have XE:=Ext.trans XE b6 | have XE:=Ext.trans (Ext.trans XE (Ext.alloc _ _)) b6);obtain ⟨an6,cn6,ad6,cd6,rfl⟩:=shape_PO O6.out;obtain ⟨_,_,_,_,_,_,j0,j1,j2,j3,j4,j5,g0,g1,g2,g3,g4,g5⟩:=(RR.out.ext XE).c6
 go_wp2_with fail
 refine hK.out _ _ ((C1.out.ext XE).c6) (fun hHeld=>?_)
 clear hK K
 try simp only [jP,jA,jB,jC,jD,jE,jF]
 refine tkH 8 hHeld ?_
 simp only [jP,jA,jB,jC,jD,jE,jF]
 refine rdH 9 (by kernel_rfl) rfl (fun K hK=>?_)
 go_simp
 refine hK.out _ _ (((C1.out.ext XE).put6 (by omega) _ _ _ _ _ _).c6) (fun hHeld=>?_)
 clear hK K
 try simp only [jP,jA,jB,jC,jD,jE,jF]
 refine wpAnyH_done (by kernel_rfl) ?_ _
 refine NoPanic.normal ?_
 go_wp2_with fail
 refine bodyPost_ret (v:=.agg #[.bool (decide (A.num < 0)),.slice an4 (bitsOf A.num.natAbs).length cn4,.slice ad4 (bitsOf A.den).length cd4,.bool (decide (B.num < 0)),.slice an6 (bitsOf B.num.natAbs).length cn6,.slice ad6 (bitsOf B.den).length cd6]) (by simp [results,Try.results118,go_sem,j0,j1,j2,j3,j4,j5]) rfl ?_
 exact hR.out _ _ (Gives.mk (put6_below (Ext.trans b1 (Ext.trans b2 (Ext.trans b3 (Ext.trans b4 (Ext.trans b5 b6))))) (show w.heap.size≤w.heap.size+1 by omega) _ _ _ _ _ _) (OwnE.putS (OwnE.mk6 (O4.out.ext (Ext.trans b5 b6)) O6.out) (RT.out.ext (Ext.trans b2 (Ext.trans b3 (Ext.trans b4 (Ext.trans b5 b6))))) (by decide) 0 [_,_,_,_,_,_]))
end Go.Proofs.Ytnbbhpihlcglgaa
