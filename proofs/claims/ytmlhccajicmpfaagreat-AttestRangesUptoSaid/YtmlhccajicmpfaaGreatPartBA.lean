/- A group of texts: PRef5Of, PRef5Low, PRef5Mul, PRef5Sum, PRef5Add, PRef5Int, PRef5Neg, PRef5Cmp -/
import Derived.Test.YtmlhccajicmpfaaGreatSq
import Derived.Test.YtmlhccajicmpfaaGreatPartAB
import Derived.Test.YtmlhccajicmpfaaGreatPartAH
import Derived.Deep.RegionHeld3
set_option maxHeartbeats 40000000
set_option maxRecDepth 100000
set_option linter.unusedSimpArgs false
namespace Go.Proofs.YtmlhccajicmpfaaGreat
open Go.RowKit Go.Att

theorem r5of_any {w:World} {s:Bool} {va vb:Value} {n d B:Nat} (hB:B≤w.heap.size) (ha:OwnB 4 B w va (bitsOf n)) (hb:OwnB 4 B w vb (bitsOf d)) (hna:(bitsOf n).length≤100000000) (hnb:(bitsOf d).length≤100000000) (h0:d≠0):
  Calls Tryz.prog 83 #[.bool s,va,vb] w (Gives w fun v' w'=>OwnP 4 B w' v' (mkQ s n d)):=by
 refine via fun R hR=>?_
 have HA:=qH ha
 have HB:=qH hb
 have H0:=qH h0
 have hE:Hid (∀ t:Bool,t=(s && decide (0 < n / Nat.gcd n d))→t=decide ((mkQ s n d).num < 0)):=fun t ht=>by rw [ht,mkQ_neg _ _ _ h0]
 have hF:Hid ((mkQ s n d).num.natAbs=n / Nat.gcd n d):=mkQ_abs _ _ _ h0
 have hG:Hid ((mkQ s n d).den=d / Nat.gcd n d):=mkQ_den _ _ _ h0
 obtain ⟨a,ca,rfl,-,-,-,-⟩:=ha.rd.shape
 obtain ⟨b,cb,rfl,-,-,-,-⟩:=hb.rd.shape
 clear ha hb h0
 by_cases hd:d=1
 ·have hg:Hid (Nat.gcd n d=1):=by show _=_;rw [hd,Nat.gcd_one_right]
  have hl:(((bitsOf d).length:Int) == 1)=true:=beqT (by have:=(bits_one d).2 hd;omega)
  clear hd
  cases s
  ·skip
   go_enter Tryz.func83,Tryz.ntmps83
   go_wp2_with fail
   refine bodyPost_ret (v:=.agg #[.bool false,.slice a (bitsOf n).length ca,.slice b (bitsOf d).length cb]) (by simp [results,Tryz.results83,go_sem]) rfl ?_
   exact hR.out _ _ (Gives.mk (Ext.alloc _ _) ⟨_,_,agg_eq (hE.out false (by rw [hg.out,Nat.div_one];simp)),by rw [hF.out,hg.out,Nat.div_one];exact HA.out.ext (Ext.alloc _ _),by rw [hG.out,hg.out,Nat.div_one];exact HB.out.ext (Ext.alloc _ _)⟩)
  by_cases hn:0 < n
  ·have eN:0 < (bitsOf n).length:=bits_len_pos.2 hn
   go_enter Tryz.func83,Tryz.ntmps83
   go_wp2_with fail
   refine bodyPost_ret (v:=.agg #[.bool true,.slice a (bitsOf n).length ca,.slice b (bitsOf d).length cb]) (by simp [results,Tryz.results83,go_sem]) rfl ?_
   exact hR.out _ _ (Gives.mk (Ext.alloc _ _) ⟨_,_,agg_eq (hE.out true (by rw [hg.out,Nat.div_one];simp [hn])),by rw [hF.out,hg.out,Nat.div_one];exact HA.out.ext (Ext.alloc _ _),by rw [hG.out,hg.out,Nat.div_one];exact HB.out.ext (Ext.alloc _ _)⟩)
  have eN:(bitsOf n).length≤0:=by have:=bits_len_pos (x:=n);omega
  go_enter Tryz.func83,Tryz.ntmps83
  go_wp2_with fail
  refine bodyPost_ret (v:=.agg #[.bool false,.slice a (bitsOf n).length ca,.slice b (bitsOf d).length cb]) (by simp [results,Tryz.results83,go_sem,List.length_eq_zero_iff.1 (Nat.le_zero.1 eN)]) rfl ?_
  exact hR.out _ _ (Gives.mk (Ext.alloc _ _) ⟨_,_,agg_eq (hE.out false (by rw [hg.out,Nat.div_one];simp [hn])),by rw [hF.out,hg.out,Nat.div_one];exact HA.out.ext (Ext.alloc _ _),by rw [hG.out,hg.out,Nat.div_one];exact HB.out.ext (Ext.alloc _ _)⟩)
 have hl:(((bitsOf d).length:Int) == 1)=false:=beqF (by have:=bits_one d;omega)
 clear hd
 obtain ⟨w1,hw1,b1,c1,z1⟩:=boxR w (.bool false) (.slice none 0 0) (.slice none 0 0) 153
 have C1:=qH c1
 have HW:=qH hw1
 clear c1 hw1
 have hg0:=qH (Nat.gcd_pos_of_pos_right n (Nat.pos_of_ne_zero H0.out))
 have hgl:=qH (blen_mono (Nat.gcd_le_right n (Nat.pos_of_ne_zero H0.out)))
 go_enter Tryz.func83,Tryz.ntmps83
 go_wp2_with fail
 rw [← HW.out]
 clear HW
 go_wp2_with fail
 refine (r3Gcd_any (HA.out.rd.ext b1) (HB.out.rd.ext b1) oM oM).mono ?_
 rintro e w4 ⟨v4,rfl,b4,o4⟩
 have O4:=qH o4
 clear o4
 go_wp2_with fail
 refine (r3DivMod_any (HA.out.rd.ext (eT b1 b4)) O4.out (by have:=hg0.out;omega) oM (by have:=hgl.out;omega)).mono ?_
 rintro e w5 ⟨_,rfl,b5,v5,r5,rfl,o5,_⟩
 rw [bval_bitsOf] at o5
 have O5:=qH o5
 clear o5
 go_wp2_with fail
 refine (r3DivMod_any (HB.out.rd.ext (eT b1 (eT b4 b5))) (O4.out.ext b5) (by have:=hg0.out;omega) oM (by have:=hgl.out;omega)).mono ?_
 rintro e w6 ⟨_,rfl,b6,v6,r6,rfl,o6,_⟩
 rw [bval_bitsOf] at o6
 have O6:=qH o6
 clear o6
 obtain ⟨a5,c5,rfl,-,-,-,-⟩:=O5.out.rd.shape
 obtain ⟨a6,c6,rfl,-,-,-,-⟩:=O6.out.rd.shape
 have hz:=qH b4.size
 obtain ⟨_,_,_,j0,j1,j2,g0,g1,g2⟩:=(C1.out.ext (eT b4 (eT b5 b6))).cells
 cases s
 ·skip
  go_wp2_with fail
  refine bodyPost_ret (v:=.agg #[.bool false,.slice a5 (bitsOf (n / Nat.gcd n d)).length c5,.slice a6 (bitsOf (d / Nat.gcd n d)).length c6]) (by simp [results,Tryz.results83,go_sem,j0,j1,j2]) rfl ?_
  exact hR.out _ _ (Gives.mk (put3_below (eT b1 (eT b4 (eT b5 b6))) (Nat.le_refl _) _ _ _) ⟨_,_,agg_eq (hE.out false (by simp)),by rw [hF.out];exact ((O5.out.ext b6).put (by have:=hz.out;omega) _ _ _).mono (by have:=hz.out;omega),by rw [hG.out];exact (O6.out.put (by have:=hz.out;have:=b5.size;omega) _ _ _).mono (by have:=hz.out;have:=b5.size;omega)⟩)
 by_cases hn:0 < n / Nat.gcd n d
 ·have eN:0 < (bitsOf (n / Nat.gcd n d)).length:=bits_len_pos.2 hn
  go_wp2_with fail
  refine bodyPost_ret (v:=.agg #[.bool true,.slice a5 (bitsOf (n / Nat.gcd n d)).length c5,.slice a6 (bitsOf (d / Nat.gcd n d)).length c6]) (by simp [results,Tryz.results83,go_sem,j0,j1,j2]) rfl ?_
  exact hR.out _ _ (Gives.mk (put3_below (eT b1 (eT b4 (eT b5 b6))) (Nat.le_refl _) _ _ _) ⟨_,_,agg_eq (hE.out true (by simp [hn])),by rw [hF.out];exact ((O5.out.ext b6).put (by have:=hz.out;omega) _ _ _).mono (by have:=hz.out;omega),by rw [hG.out];exact (O6.out.put (by have:=hz.out;have:=b5.size;omega) _ _ _).mono (by have:=hz.out;have:=b5.size;omega)⟩)
 have eN:(bitsOf (n / Nat.gcd n d)).length≤0:=by have:=bits_len_pos (x:=n / Nat.gcd n d);omega
 go_wp2_with fail
 refine bodyPost_ret (v:=.agg #[.bool false,.slice a5 (bitsOf (n / Nat.gcd n d)).length c5,.slice a6 (bitsOf (d / Nat.gcd n d)).length c6]) (by simp [results,Tryz.results83,go_sem,j0,j1,j2,List.length_eq_zero_iff.1 (Nat.le_zero.1 eN)]) rfl ?_
 exact hR.out _ _ (Gives.mk (put3_below (eT b1 (eT b4 (eT b5 b6))) (Nat.le_refl _) _ _ _) ⟨_,_,agg_eq (hE.out false (by simp [hn])),by rw [hF.out];exact ((O5.out.ext b6).put (by have:=hz.out;omega) _ _ _).mono (by have:=hz.out;omega),by rw [hG.out];exact (O6.out.put (by have:=hz.out;have:=b5.size;omega) _ _ _).mono (by have:=hz.out;have:=b5.size;omega)⟩)
open Go.RowKit Go.Att

theorem r5low_any {w:World} {v:Value} {q:Rat} (hq:RdP w v q):
  Calls Tryz.prog 117 #[v] w (Gives w fun v' w'=>RdB w' v' (bitsOf q.den)):=by
 refine via fun R hR=>?_
 obtain ⟨n,d,rfl,hn,hd⟩:=hq
 have HD:=qH hd
 obtain ⟨a,c,rfl,-,-,-,-⟩:=hd.shape
 clear hn hd
 have hl:(((bitsOf q.den).length:Int) == 0)=false:=beqF (by have:=(bits_len_pos (x:=q.den)).2 q.den_pos;omega)
 go_enter Tryz.func117,Tryz.ntmps117
 go_wp2_with fail
 exact hR.out _ _ (Gives.mk (Ext.alloc _ _) (HD.out.ext (Ext.alloc _ _)))

theorem low_same {w:World} {s n d:Value} {D:Nat} (hd:RdB w d (bitsOf D)) (h0:D≠0):
  Calls Tryz.prog 117 #[.agg #[s,n,d]] w (Gives w fun v' _=>v'=d):=by
 refine via fun R hR=>?_
 obtain ⟨a,c,rfl,-,-,-,-⟩:=hd.shape
 clear hd
 have hl:(((bitsOf D).length:Int) == 0)=false:=beqF (by have:=(bits_len_pos (x:=D)).2 oM;omega)
 clear h0
 go_enter Tryz.func117,Tryz.ntmps117
 go_wp2_with fail
 exact hR.out _ _ (Gives.mk (Ext.alloc _ _) rfl)

theorem r5sign_any {w:World} {v:Value} {q:Rat} (hq:RdP w v q):
  Calls Tryz.prog 78 #[v] w (Gives w fun v' _=>v'=.int .i64 q.num.sign):=by
 refine via fun R hR=>?_
 obtain ⟨n,d,rfl,hn,hd⟩:=hq
 obtain ⟨a,c,rfl,-,-,-,-⟩:=hn.shape
 clear hn hd
 rcases Int.lt_trichotomy q.num 0 with h | h | h
 ·have e:q.num.sign = -1:=Int.sign_eq_neg_one_of_neg h
  have hl:(((bitsOf q.num.natAbs).length:Int) == 0)=false:=beqF (by have:=bits_len_pos.2 (show 0 < q.num.natAbs by omega);omega)
  have hs:decide (q.num < 0)=true:=decide_eq_true h
  rw [e] at hR
  rw [hs]
  go_enter Tryz.func78,Tryz.ntmps78
  go_wp2_with fail
  exact hR.out _ _ (Gives.mk (Ext.alloc _ _) rfl)
 ·have e:q.num.sign=0:=by rw [h];rfl
  have hl:(((bitsOf q.num.natAbs).length:Int) == 0)=true:=beqT (by have:=bits_len_pos (x:=q.num.natAbs);omega)
  rw [e] at hR
  clear h e
  go_enter Tryz.func78,Tryz.ntmps78
  go_wp2_with fail
  exact hR.out _ _ (Gives.mk (Ext.alloc _ _) rfl)
 have e:q.num.sign=1:=Int.sign_eq_one_of_pos h
 have hl:(((bitsOf q.num.natAbs).length:Int) == 0)=false:=beqF (by have:=bits_len_pos.2 (show 0 < q.num.natAbs by omega);omega)
 have hs:=dF (q.num < 0)
 rw [e] at hR
 rw [hs]
 go_enter Tryz.func78,Tryz.ntmps78
 go_wp2_with fail
 exact hR.out _ _ (Gives.mk (Ext.alloc _ _) rfl)
open Go.RowKit Go.Att

theorem r5of_to {w:World} {s:Bool} {va vb:Value} {n d:Nat} {r:Rat} (B:Nat) (ha:OwnB 4 B w va (bitsOf n)) (hb:OwnB 4 B w vb (bitsOf d)) (hB:B≤w.heap.size) (hna:(bitsOf n).length≤100000000) (hnb:(bitsOf d).length≤100000000) (h0:d≠0) (hr:mkQ s n d=r):
  Calls Tryz.prog 83 #[.bool s,va,vb] w (Gives w fun v' w'=>OwnP 4 B w' v' r):=hr ▸ r5of_any hB ha hb hna hnb h0
theorem r3mul_to {w:World} {va vb:Value} (n m:Nat) (ha:RdB w va (bitsOf n)) (hb:RdB w vb (bitsOf m)) (hla:(bitsOf n).length≤50000) (hlb:(bitsOf m).length≤50000):
  Calls Tryz.prog 116 #[va,vb] w (Gives w fun v' w'=>OwnB 4 w.heap.size w' v' (bitsOf (n*m))):=by
 have h:=r3Mul_any ha hb oM oM
 rw [bval_bitsOf,bval_bitsOf] at h
 exact h

open Go.RowKit Go.Att

theorem r5sum_any {w:World} {s t:Bool} {va vb:Value} {n m:Nat} (ha:RdB w va (bitsOf n)) (hb:RdB w vb (bitsOf m)) (hna:(bitsOf n).length≤1000000000) (hnb:(bitsOf m).length≤1000000000):
  Calls Tryz.prog 115 #[.bool s,va,.bool t,vb] w (Gives w fun v' w'=>∃ o,v'=.tuple #[.bool (sumS s n t m),o]∧OwnB 4 w.heap.size w' o (bitsOf (sumN s n t m))):=by
 refine via fun R hR=>?_
 have HA:=qH ha
 have HB:=qH hb
 clear ha hb
 unfold sumS sumN at hR
 by_cases hst:s=t
 ·subst hst
  rw [if_pos rfl,if_pos rfl] at hR
  go_enter Tryz.func115,Tryz.ntmps115
  go_wp2_with fail
  refine (rAdd_any HA.out HB.out oM oM).mono ?_
  rintro e w1 ⟨v1,rfl,b1,o1⟩
  have O1:=qH o1
  clear o1
  rw [bval_bitsOf,bval_bitsOf] at O1
  go_wp2_with fail
  exact hR.out _ _ (Gives.mk b1 ⟨_,rfl,O1.out⟩)
 rw [if_neg hst,if_neg hst] at hR
 have hs:(s == t)=false:=by cases s <;> cases t <;> simp at hst ⊢
 clear hst
 go_enter Tryz.func115,Tryz.ntmps115
 go_wp2_with fail
 refine (rCmp_any _ _ HA.out HB.out).mono ?_
 rintro e w1 ⟨_,rfl,b1,rfl⟩
 rcases cmpN_cases n m with ⟨h,e⟩ | ⟨h,e⟩ | ⟨h,e⟩
 ·rw [if_neg oM,if_neg oM] at hR
  rw [e]
  clear e
  go_wp2_with fail
  refine (rSub_any (HB.out.ext b1) (HA.out.ext b1) (by rw [bval_bitsOf,bval_bitsOf];omega) oM).mono ?_
  rintro e w2 ⟨v2,rfl,b2,o2⟩
  have O2:=qH o2
  clear o2
  rw [bval_bitsOf,bval_bitsOf] at O2
  go_wp2_with fail
  exact hR.out _ _ (Gives.mk (eT b1 b2) ⟨_,rfl,O2.out.mono b1.size⟩)
 ·rw [if_pos oM,if_pos oM] at hR
  rw [e]
  clear e
  go_wp2_with fail
  refine (rSub_any (HA.out.ext b1) (HB.out.ext b1) (by rw [bval_bitsOf,bval_bitsOf];omega) oM).mono ?_
  rintro e w2 ⟨v2,rfl,b2,o2⟩
  have O2:=qH o2
  clear o2
  rw [bval_bitsOf,bval_bitsOf] at O2
  go_wp2_with fail
  exact hR.out _ _ (Gives.mk (eT b1 b2) ⟨_,rfl,O2.out.mono b1.size⟩)
 rw [if_pos oM,if_pos oM] at hR
 rw [e]
 clear e
 go_wp2_with fail
 refine (rSub_any (HA.out.ext b1) (HB.out.ext b1) (by rw [bval_bitsOf,bval_bitsOf];omega) oM).mono ?_
 rintro e w2 ⟨v2,rfl,b2,o2⟩
 have O2:=qH o2
 clear o2
 rw [bval_bitsOf,bval_bitsOf] at O2
 go_wp2_with fail
 exact hR.out _ _ (Gives.mk (eT b1 b2) ⟨_,rfl,O2.out.mono b1.size⟩)
open Go.RowKit Go.Att

theorem r5add_any {w:World} {va vb:Value} {p q:Rat} (hp:RdP w va p) (hq:RdP w vb q) (sp:Sb 50000 p) (sq:Sb 50000 q):
  Calls Tryz.prog 79 #[va,vb] w (Gives w fun v' w'=>OwnP 4 w.heap.size w' v' (p+q)):=by
 refine via fun R hR=>?_
 generalize hr:p+q=r at hR
 have HRR:=qH hr
 have HP:=qH hp
 have HQ:=qH hq
 clear hr
 obtain ⟨n,d,rfl,hn,hd⟩:=hp
 obtain ⟨m,c,rfl,hm,hc⟩:=hq
 have HN:=qH hn
 have HM:=qH hm
 have SP:=qH sp
 have SQ:=qH sq
 clear hn hd hm hc sp sq
 obtain ⟨w1,hw1,b1,c1,c2,c3,z1⟩:=box2R w (.bool (decide (p.num < 0))) n d (.bool (decide (q.num < 0))) m c (.bool false) (.slice none 0 0) (.slice none 0 0) 153 153 153
 have C1:=qH c1
 have C2:=qH c2
 have C3:=qH c3
 have HW:=qH hw1
 clear c1 c2 c3 hw1
 go_enter Tryz.func79,Tryz.ntmps79
 go_wp2_with fail
 rw [← HW.out]
 clear HW
 have b2:=drew_ext w1
 have XE:=b2
 go_region_held3 (fun w'=>(w'.cell? ⟨w.heap.size,0,none⟩=some (.bool (decide (p.num < 0)))∧w'.cell? ⟨w.heap.size,1,none⟩=some (n)∧w'.cell? ⟨w.heap.size,2,none⟩=some (d))∧(w'.cell? ⟨w.heap.size+1,0,none⟩=some (.bool (decide (q.num < 0)))∧w'.cell? ⟨w.heap.size+1,1,none⟩=some (m)∧w'.cell? ⟨w.heap.size+1,2,none⟩=some (c))) (exact ⟨C1.out.ext XE,C2.out.ext XE⟩)
  (first
   | (go_at_call 115;refine (r5sum_any (O4.out.rd.ext (eT b5 b6)) O6.out.rd (by have:=bits_mul SP.out.1 SQ.out.2;omega) (by have:=bits_mul SQ.out.1 SP.out.2;omega)).mono ?_;rintro e w7 ⟨_,rfl,b7,v7,rfl,o7⟩;have O7:=qH o7;clear o7;(first | have XE:=eT XE b7 | have XE:=eT (eT XE (Ext.alloc _ _)) b7))
   | (go_at_call 116;refine (r3mul_to _ _ (HM.out.ext (eT b1 (eT b2 (eT b3 (eT b4 b5))))) O5.out SQ.out.1 SP.out.2).mono ?_;rintro e w6 ⟨v6,rfl,b6,o6⟩;have O6:=qH o6;clear o6;(first | have XE:=eT XE b6 | have XE:=eT (eT XE (Ext.alloc _ _)) b6))
   | (go_at_call 117;refine (r5low_any (HP.out.ext (eT b1 (eT b2 (eT b3 b4))))).mono ?_;rintro e w5 ⟨v5,rfl,b5,o5⟩;have O5:=qH o5;clear o5;(first | have XE:=eT XE b5 | have XE:=eT (eT XE (Ext.alloc _ _)) b5))
   | (go_at_call 116;refine (r3mul_to _ _ (HN.out.ext (eT b1 (eT b2 b3))) O3.out SP.out.1 SQ.out.2).mono ?_;rintro e w4 ⟨v4,rfl,b4,o4⟩;have O4:=qH o4;clear o4;(first | have XE:=eT XE b4 | have XE:=eT (eT XE (Ext.alloc _ _)) b4))
   | (go_at_call 117;refine (r5low_any (HQ.out.ext (eT b1 b2))).mono ?_;rintro e w3 ⟨v3,rfl,b3,o3⟩;have O3:=qH o3;clear o3;(first | have XE:=eT XE b3 | have XE:=eT (eT XE (Ext.alloc _ _)) b3)))
 go_upto_region 2 with (fail)
 have D1:=qH (C1.out.ext (eT b2 (eT b3 (eT b4 (eT b5 (eT b6 b7))))))
 have D2:=qH (C2.out.ext (eT b2 (eT b3 (eT b4 (eT b5 (eT b6 b7))))))
 have D3:=qH (C3.out.ext (eT b2 (eT b3 (eT b4 (eT b5 (eT b6 b7))))))
 clear C1 C2 C3 O3 O4 O5 O6
 have hz:=qH (Below.size (eT b2 (eT b3 (eT b4 (eT b5 b6)))))
 have b8:=drew_ext w7
 have XE:=b8
 go_region_held3 (fun w'=>(w'.cell? ⟨w.heap.size,0,none⟩=some (.bool (decide (p.num < 0)))∧w'.cell? ⟨w.heap.size,1,none⟩=some (n)∧w'.cell? ⟨w.heap.size,2,none⟩=some (d))∧(w'.cell? ⟨w.heap.size+1,0,none⟩=some (.bool (decide (q.num < 0)))∧w'.cell? ⟨w.heap.size+1,1,none⟩=some (m)∧w'.cell? ⟨w.heap.size+1,2,none⟩=some (c))) (first | exact ⟨D1.out.ext XE,D2.out.ext XE⟩ | exact ⟨(D1.out.ext XE).put oM _ _ _,(D2.out.ext XE).put oM _ _ _⟩)
  (first
   | (go_at_call 83;refine (r5of_to (r:=r) w1.heap.size ((O7.out.ext (eT b8 (eT b9 (eT b10 b11)))).mono hz.out) (O11.out.mono (Below.size (eT b2 (eT b3 (eT b4 (eT b5 (eT b6 (eT b7 (eT b8 (eT b9 b10)))))))))) (Below.size (eT b2 (eT b3 (eT b4 (eT b5 (eT b6 (eT b7 (eT b8 (eT b9 (eT b10 b11)))))))))) (by have:=blen_mono (sumN_le (decide (p.num < 0)) (decide (q.num < 0)) (p.num.natAbs*q.den) (q.num.natAbs*p.den));have:=blen_add (bits_mul SP.out.1 SQ.out.2) (bits_mul SQ.out.1 SP.out.2);omega) (by have:=bits_mul SP.out.2 SQ.out.2;omega) (Nat.mul_ne_zero p.den_nz q.den_nz) ((addQ p q).trans HRR.out)).mono ?_;rintro e w12 ⟨_,rfl,b12,n12,d12,rfl,on12,od12⟩;have ON12:=qH on12;have OD12:=qH od12;clear on12 od12;obtain ⟨an12,cn12,rfl,-,-,-,-⟩:=ON12.out.rd.shape;obtain ⟨ad12,cd12,rfl,-,-,-,-⟩:=OD12.out.rd.shape;(first | have XE:=eT XE b12 | have XE:=eT (eT XE (Ext.alloc _ _)) b12);obtain ⟨_,_,_,j0,j1,j2,g0,g1,g2⟩:=(D3.out.ext XE).cells)
   | (go_at_call 116;refine (r3mul_to _ _ (O9.out.ext b10) O10.out SP.out.2 SQ.out.2).mono ?_;rintro e w11 ⟨v11,rfl,b11,o11⟩;have O11:=qH o11;clear o11;(first | have XE:=eT XE b11 | have XE:=eT (eT XE (Ext.alloc _ _)) b11))
   | (go_at_call 117;refine (r5low_any (HQ.out.ext (eT b1 (eT b2 (eT b3 (eT b4 (eT b5 (eT b6 (eT b7 (eT b8 b9)))))))))).mono ?_;rintro e w10 ⟨v10,rfl,b10,o10⟩;have O10:=qH o10;clear o10;(first | have XE:=eT XE b10 | have XE:=eT (eT XE (Ext.alloc _ _)) b10))
   | (go_at_call 117;refine (r5low_any (HP.out.ext (eT b1 (eT b2 (eT b3 (eT b4 (eT b5 (eT b6 (eT b7 b8))))))))).mono ?_;rintro e w9 ⟨v9,rfl,b9,o9⟩;have O9:=qH o9;clear o9;(first | have XE:=eT XE b9 | have XE:=eT (eT XE (Ext.alloc _ _)) b9)))
 go_wp2_with fail
 refine bodyPost_ret (v:=.agg #[.bool (decide (r.num < 0)),.slice an12 (bitsOf r.num.natAbs).length cn12,.slice ad12 (bitsOf r.den).length cd12]) (by simp [results,Tryz.results79,go_sem,j0,j1,j2]) rfl ?_
 exact hR.out _ _ (Gives.mk (put3_below (eT b1 (eT b2 (eT b3 (eT b4 (eT b5 (eT b6 (eT b7 (eT b8 (eT b9 (eT b10 (eT b11 b12))))))))))) oM _ _ _) ⟨_,_,rfl,(ON12.out.put oM _ _ _).mono oM,(OD12.out.put oM _ _ _).mono oM⟩)
open Go.RowKit Go.Att

open Go.RowKit Go.Att

theorem r5neg_any {w:World} {v:Value} {q:Rat} (hq:RdP w v q):
  Calls Tryz.prog 80 #[v] w (Gives w fun v' w'=>RdP w' v' (-q)):=by
 refine via fun R hR=>?_
 have hs:=neg_sign q
 have ha:(-q).num.natAbs=q.num.natAbs:=by rw [Rat.neg_num,Int.natAbs_neg]
 have hb:(-q).den=q.den:=rfl
 generalize -q=r at*
 obtain ⟨n,d,rfl,hn,hd⟩:=hq
 have HN:=qH hn
 have HD:=qH hd
 have HS:=qH hs
 have HA:=qH ha
 have HB:=qH hb
 obtain ⟨a,c,rfl,-,-,-,-⟩:=HN.out.shape
 obtain ⟨a',c',rfl,-,-,-,-⟩:=HD.out.shape
 have hp:=bits_len_pos (x:=q.num.natAbs)
 clear hn hd hs ha hb
 cases hsg:decide (q.num < 0)
 ·by_cases h0:0 < q.num.natAbs
  ·have eN:0 < (bitsOf q.num.natAbs).length:=hp.2 h0
   have HT:Hid (true=decide (r.num < 0)):=by show _=_;rw [← HS.out,hsg];simp [h0]
   clear HS hsg
   obtain ⟨w1,hw1,b1,c1,_,c3,z1⟩:=box1R w (.bool false) (.slice a (bitsOf q.num.natAbs).length c) (.slice a' (bitsOf q.den).length c') (.bool false) (.slice none 0 0) (.slice none 0 0) 153 153
   have C1:=qH c1
   have C3:=qH c3
   have HW:=qH hw1
   clear c1 c3 hw1
   go_enter Tryz.func80,Tryz.ntmps80
   go_wp2_with fail
   rw [← HW.out]
   clear HW
   have b2:=drew_ext w1
   have XE:=b2
   go_region_held3 (fun w'=>w'.cell? ⟨w.heap.size,0,none⟩=some (.bool false)∧w'.cell? ⟨w.heap.size,1,none⟩=some (.slice a (bitsOf q.num.natAbs).length c)∧w'.cell? ⟨w.heap.size,2,none⟩=some (.slice a' (bitsOf q.den).length c')) (first | exact C1.out.ext XE | exact (C1.out.ext XE).put oM _ _ _)
    (first
     | (go_at_call 117;refine (low_same (HD.out.ext (eT b1 b2)) q.den_nz).mono ?_;rintro e w3 ⟨_,rfl,b3,rfl⟩;(first | have XE:=eT XE b3 | have XE:=eT (eT XE (Ext.alloc _ _)) b3);obtain ⟨_,_,_,j0,j1,j2,g0,g1,g2⟩:=(C3.out.ext XE).cells))
   go_wp2_with fail
   refine bodyPost_ret (v:=.agg #[.bool true,.slice a (bitsOf q.num.natAbs).length c,.slice a' (bitsOf q.den).length c']) (by simp [results,Tryz.results80,go_sem,j0,j1,j2]) rfl ?_
   have xx:=put3_below (eT b1 (eT b2 b3)) (Nat.le_succ w.heap.size) (.bool true) (.slice a (bitsOf q.num.natAbs).length c) (.slice a' (bitsOf q.den).length c')
   exact hR.out _ _ (Gives.mk xx ⟨_,_,agg_eq HT.out,by rw [HA.out];exact HN.out.ext xx,by rw [HB.out];exact HD.out.ext xx⟩)
  have eN:(bitsOf q.num.natAbs).length≤0:=by omega
  have HT:Hid (false=decide (r.num < 0)):=by show _=_;rw [← HS.out,hsg];simp [h0]
  clear HS hsg
  obtain ⟨w1,hw1,b1,c1,_,c3,z1⟩:=box1R w (.bool false) (.slice a (bitsOf q.num.natAbs).length c) (.slice a' (bitsOf q.den).length c') (.bool false) (.slice none 0 0) (.slice none 0 0) 153 153
  have C1:=qH c1
  have C3:=qH c3
  have HW:=qH hw1
  clear c1 c3 hw1
  go_enter Tryz.func80,Tryz.ntmps80
  go_wp2_with fail
  rw [← HW.out]
  clear HW
  have b2:=drew_ext w1
  have XE:=b2
  go_region_held3 (fun w'=>w'.cell? ⟨w.heap.size,0,none⟩=some (.bool false)∧w'.cell? ⟨w.heap.size,1,none⟩=some (.slice a (bitsOf q.num.natAbs).length c)∧w'.cell? ⟨w.heap.size,2,none⟩=some (.slice a' (bitsOf q.den).length c')) (first | exact C1.out.ext XE | exact (C1.out.ext XE).put oM _ _ _)
   (first
    | (go_at_call 117;refine (low_same (HD.out.ext (eT b1 b2)) q.den_nz).mono ?_;rintro e w3 ⟨_,rfl,b3,rfl⟩;(first | have XE:=eT XE b3 | have XE:=eT (eT XE (Ext.alloc _ _)) b3);obtain ⟨_,_,_,j0,j1,j2,g0,g1,g2⟩:=(C3.out.ext XE).cells))
  go_wp2_with fail
  refine bodyPost_ret (v:=.agg #[.bool false,.slice a (bitsOf q.num.natAbs).length c,.slice a' (bitsOf q.den).length c']) (by simp [results,Tryz.results80,go_sem,j0,j1,j2,List.length_eq_zero_iff.1 (Nat.le_zero.1 eN)]) rfl ?_
  have xx:=put3_below (eT b1 (eT b2 b3)) (Nat.le_succ w.heap.size) (.bool false) (.slice a (bitsOf q.num.natAbs).length c) (.slice a' (bitsOf q.den).length c')
  exact hR.out _ _ (Gives.mk xx ⟨_,_,agg_eq HT.out,by rw [HA.out];exact HN.out.ext xx,by rw [HB.out];exact HD.out.ext xx⟩)
 have HT:Hid (false=decide (r.num < 0)):=by show _=_;rw [← HS.out,hsg];simp
 clear HS hsg
 obtain ⟨w1,hw1,b1,c1,_,c3,z1⟩:=box1R w (.bool true) (.slice a (bitsOf q.num.natAbs).length c) (.slice a' (bitsOf q.den).length c') (.bool false) (.slice none 0 0) (.slice none 0 0) 153 153
 have C1:=qH c1
 have C3:=qH c3
 have HW:=qH hw1
 clear c1 c3 hw1
 go_enter Tryz.func80,Tryz.ntmps80
 go_wp2_with fail
 rw [← HW.out]
 clear HW
 have b2:=drew_ext w1
 have XE:=b2
 refine wp_region_noPanic ?_
 refine wp_region_held_drew (S:=fun w'=>w'.cell? ⟨w.heap.size,0,none⟩=some (.bool true)∧w'.cell? ⟨w.heap.size,1,none⟩=some (.slice a (bitsOf q.num.natAbs).length c)∧w'.cell? ⟨w.heap.size,2,none⟩=some (.slice a' (bitsOf q.den).length c')) kR (C1.out.ext XE) (fun hHeld=>?_)
 refine tkH 0 hHeld ?_
 simp only [jP,jJ]
 refine tkH 1 hHeld ?_
 simp only [jP,jJ]
 refine tkH 2 hHeld ?_
 simp only [jP,jJ]
 refine tkH 3 hHeld ?_
 simp only [jP,jJ]
 refine wpAnyH_take (i:=4) rfl kR kR kR (fun _ _ _ h=>h) (Or.inr ⟨by rfl,rfl⟩) hHeld ?_
 simp only [jP,jJ]
 refine wpAnyH_take (i:=5) rfl kR kR kR (fun _ _ _ h=>h) (Or.inr ⟨by rfl,rfl⟩) hHeld ?_
 simp only [jP,jJ]
 refine wpAnyH_take (i:=6) rfl kR kR kR (fun _ _ _ h=>h) (Or.inr ⟨by rfl,rfl⟩) hHeld ?_
 simp only [jP,jJ]
 refine wpAnyH_take (i:=7) rfl kR kR kR (fun _ _ _ h=>h) (Or.inr ⟨by rfl,rfl⟩) hHeld ?_
 simp only [jP,jJ]
 refine tkH 8 hHeld ?_
 simp only [jP,jJ]
 refine tkH 9 hHeld ?_
 simp only [jP,jJ]
 refine tkH 10 hHeld ?_
 simp only [jP,jJ]
 refine tkH 11 hHeld ?_
 simp only [jP,jJ]
 refine rdH 12 kR rfl (fun K hK=>?_)
 go_simp
 go_at_call 117;refine (low_same (HD.out.ext (eT b1 b2)) q.den_nz).mono ?_;rintro e w3 ⟨_,rfl,b3,rfl⟩;(first | have XE:=eT XE b3 | have XE:=eT (eT XE (Ext.alloc _ _)) b3);obtain ⟨_,_,_,j0,j1,j2,g0,g1,g2⟩:=(C3.out.ext XE).cells
 go_wp2_with fail
 refine hK.out _ _ (C1.out.ext XE) (fun hHeld=>?_)
 clear hK K
 try simp only [jP,jJ]
 refine tkH 13 hHeld ?_
 simp only [jP,jJ]
 refine rdH 14 kR rfl (fun K hK=>?_)
 go_simp
 refine hK.out _ _ ((C1.out.ext XE).put oM _ _ _) (fun hHeld=>?_)
 clear hK K
 try simp only [jP,jJ]
 refine dnH kR ?_
 go_wp2_with fail
 refine bodyPost_ret (v:=.agg #[.bool false,.slice a (bitsOf q.num.natAbs).length c,.slice a' (bitsOf q.den).length c']) (by simp [results,Tryz.results80,go_sem,j0,j1,j2]) rfl ?_
 have xx:=put3_below (eT b1 (eT b2 b3)) (Nat.le_succ w.heap.size) (.bool false) (.slice a (bitsOf q.num.natAbs).length c) (.slice a' (bitsOf q.den).length c')
 exact hR.out _ _ (Gives.mk xx ⟨_,_,agg_eq HT.out,by rw [HA.out];exact HN.out.ext xx,by rw [HB.out];exact HD.out.ext xx⟩)
open Go.RowKit Go.Att

theorem r5cmp_any {w:World} {va vb:Value} {p q:Rat} (hp:RdP w va p) (hq:RdP w vb q) (sp:Sb 50000 p) (sq:Sb 50000 q):
  Calls Tryz.prog 49 #[va,vb] w (Gives w fun v' _=>v'=.int .i64 (p - q).num.sign):=by
 refine via fun R hR=>?_
 have HP:=qH hp
 have HQ:=qH hq
 obtain ⟨n,d,rfl,hn,hd⟩:=hp
 obtain ⟨m,c,rfl,hm,hc⟩:=hq
 have SP:=qH sp
 have SQ:=qH sq
 clear hn hd hm hc sp sq
 obtain ⟨w1,hw1,b1,c1,c2,_⟩:=box2 w (.bool (decide (p.num < 0))) n d (.bool (decide (q.num < 0))) m c 153 153
 have C1:=qH c1
 have C2:=qH c2
 have HW:=qH hw1
 rw [Rat.sub_eq_add_neg] at hR
 clear hw1 c1 c2
 go_enter Tryz.func49,Tryz.ntmps49
 go_wp2_with fail
 rw [← HW.out]
 clear HW
 have b2:=drew_ext w1
 have XE:=b2
 go_region_held3 (fun w'=>(w'.cell? ⟨w.heap.size,0,none⟩=some (.bool (decide (p.num < 0)))∧w'.cell? ⟨w.heap.size,1,none⟩=some (n)∧w'.cell? ⟨w.heap.size,2,none⟩=some (d))∧(w'.cell? ⟨w.heap.size+1,0,none⟩=some (.bool (decide (q.num < 0)))∧w'.cell? ⟨w.heap.size+1,1,none⟩=some (m)∧w'.cell? ⟨w.heap.size+1,2,none⟩=some (c))) (exact ⟨C1.out.ext XE,C2.out.ext XE⟩)
  (first
   | (go_at_call 78;refine (r5sign_any O4.out.rd).mono ?_;rintro e w5 ⟨_,rfl,b5,rfl⟩;(first | have XE:=eT XE b5 | have XE:=eT (eT XE (Ext.alloc _ _)) b5))
   | (go_at_call 79;refine (r5add_any (HP.out.ext (eT b1 (eT b2 b3))) O3.out SP.out SQ.out.neg).mono ?_;rintro e w4 ⟨v4,rfl,b4,o4⟩;have O4:=qH o4;clear o4;(first | have XE:=eT XE b4 | have XE:=eT (eT XE (Ext.alloc _ _)) b4))
   | (go_at_call 80;refine (r5neg_any (HQ.out.ext (eT b1 b2))).mono ?_;rintro e w3 ⟨v3,rfl,b3,o3⟩;have O3:=qH o3;clear o3;(first | have XE:=eT XE b3 | have XE:=eT (eT XE (Ext.alloc _ _)) b3)))
 go_wp2_with fail
 exact hR.out _ _ (Gives.mk (eT b1 (eT b2 (eT b3 (eT b4 b5)))) rfl)
end Go.Proofs.YtmlhccajicmpfaaGreat
