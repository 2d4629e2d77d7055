/- A group of texts: PFew05, PRef5Of, PRef5Low, PRef5Mul, PRef5Sum, PRef5Add, PRef5Int, PRef5Neg, PRef5Cmp -/
import Derived.Test.YtdooldpgnjmpfaaGreatDoorPartBF
import Derived.Test.YtdooldpgnjmpfaaGreatDoorPartAB
import Derived.Deep.RegionHeld3
namespace Go.Proofs.YtdooldpgnjmpfaaGreatDoor
open Go.RowKit Go.Att

theorem few5_any {w:World} {va:Value} {xs:List Nat} (ha:RdL w va xs) (hl:xs.length≤1099511627776):
  Calls Tryz.prog 62 #[va] w (Gives w fun v' w'=>OwnL 119 w.heap.size w' v' (xs.take 8)):=by
 refine via fun R hR=>?_
 have HA:=Lib.hid ha
 obtain ⟨a,ca,rfl,hla,hma,_,_⟩:=ha.1.shape
 clear ha
 unfold maxLen at hma
 by_cases h:8 < xs.length
 ·have HT:Hid (RdL w (.slice a 8 ca) (xs.take 8)):=⟨RdI.take HA.out.1 rfl (by omega),HA.out.2.take 8⟩
  go_enter Tryz.func62,Tryz.ntmps62
  go_wp2_with fail
  refine (Copy_any HT.out (by rw [List.length_take];omega)).mono ?_
  rintro e w1 ⟨v1,rfl,b1,o1⟩
  have O1:=Lib.hid o1
  clear o1
  go_wp2
  exact hR.out _ _ (Gives.mk b1 O1.out)
 ·have E:Hid (xs.take 8=xs):=List.take_of_length_le (by omega)
  go_enter Tryz.func62,Tryz.ntmps62
  go_wp2_with fail
  refine (Copy_any HA.out (by omega)).mono ?_
  rintro e w1 ⟨v1,rfl,b1,o1⟩
  have O1:=Lib.hid o1
  clear o1
  go_wp2
  exact hR.out _ _ (Gives.mk b1 (by rw [E.out];exact O1.out))
open Go.RowKit Go.Att

theorem r5of_any {w:World} {s:Bool} {va vb:Value} {n d B:Nat} (hB:B≤w.heap.size) (ha:OwnB 4 B w va (bitsOf n)) (hb:OwnB 4 B w vb (bitsOf d)) (hna:(bitsOf n).length≤100000000) (hnb:(bitsOf d).length≤100000000) (h0:d≠0):
  Calls Tryz.prog 46 #[.bool s,va,vb] w (Gives w fun v' w'=>OwnP 4 B w' v' (mkQ s n d)):=by
 refine via fun R hR=>?_
 have HA:=Lib.hid ha
 have HB:=Lib.hid hb
 have H0:=Lib.hid h0
 have hE:Hid (∀ t:Bool,t=(s && decide (0 < n / Nat.gcd n d))→t=decide ((mkQ s n d).num < 0)):=fun t ht=>by rw [ht,mkQ_neg _ _ _ h0]
 have hF:Hid ((mkQ s n d).num.natAbs=n / Nat.gcd n d):=mkQ_abs _ _ _ h0
 have hG:Hid ((mkQ s n d).den=d / Nat.gcd n d):=mkQ_den _ _ _ h0
 obtain ⟨a,ca,rfl,-,-,-,-⟩:=ha.rd.shape
 obtain ⟨b,cb,rfl,-,-,-,-⟩:=hb.rd.shape
 clear ha hb h0
 by_cases hd:d=1
 ·have hg:Hid (Nat.gcd n d=1):=by show _=_;rw [hd,Nat.gcd_one_right]
  have hl:(((bitsOf d).length:Int) == 1)=true:=beqT (by have:=(bits_one d).2 hd;omega)
  clear hd
  cases s
  ·skip
   go_enter Tryz.func46,Tryz.ntmps46
   go_wp2_with fail
   refine bodyPost_ret (v:=.agg #[.bool false,.slice a (bitsOf n).length ca,.slice b (bitsOf d).length cb]) (by simp [results,Tryz.results46,go_sem]) rfl ?_
   exact hR.out _ _ (Gives.mk (Ext.alloc _ _) ⟨_,_,agg_eq (hE.out false (by rw [hg.out,Nat.div_one];simp)),by rw [hF.out,hg.out,Nat.div_one];exact HA.out.ext (Ext.alloc _ _),by rw [hG.out,hg.out,Nat.div_one];exact HB.out.ext (Ext.alloc _ _)⟩)
  ·by_cases hn:0 < n
   ·have eN:0 < (bitsOf n).length:=bits_len_pos.2 hn
    go_enter Tryz.func46,Tryz.ntmps46
    go_wp2_with fail
    refine bodyPost_ret (v:=.agg #[.bool true,.slice a (bitsOf n).length ca,.slice b (bitsOf d).length cb]) (by simp [results,Tryz.results46,go_sem]) rfl ?_
    exact hR.out _ _ (Gives.mk (Ext.alloc _ _) ⟨_,_,agg_eq (hE.out true (by rw [hg.out,Nat.div_one];simp [hn])),by rw [hF.out,hg.out,Nat.div_one];exact HA.out.ext (Ext.alloc _ _),by rw [hG.out,hg.out,Nat.div_one];exact HB.out.ext (Ext.alloc _ _)⟩)
   ·have eN:(bitsOf n).length≤0:=by have:=bits_len_pos (x:=n);omega
    go_enter Tryz.func46,Tryz.ntmps46
    go_wp2_with fail
    refine bodyPost_ret (v:=.agg #[.bool false,.slice a (bitsOf n).length ca,.slice b (bitsOf d).length cb]) (by simp [results,Tryz.results46,go_sem,List.length_eq_zero_iff.1 (Nat.le_zero.1 eN)]) rfl ?_
    exact hR.out _ _ (Gives.mk (Ext.alloc _ _) ⟨_,_,agg_eq (hE.out false (by rw [hg.out,Nat.div_one];simp [hn])),by rw [hF.out,hg.out,Nat.div_one];exact HA.out.ext (Ext.alloc _ _),by rw [hG.out,hg.out,Nat.div_one];exact HB.out.ext (Ext.alloc _ _)⟩)
 ·have hl:(((bitsOf d).length:Int) == 1)=false:=beqF (by have:=bits_one d;omega)
  clear hd
  obtain ⟨w1,hw1,b1,c1,z1⟩:=boxR w (.bool false) (.slice none 0 0) (.slice none 0 0) 87
  have C1:=Lib.hid c1
  have HW:=Lib.hid hw1
  clear c1 hw1
  have hg0:=Lib.hid (Nat.gcd_pos_of_pos_right n (Nat.pos_of_ne_zero H0.out))
  have hgl:=Lib.hid (blen_mono (Nat.gcd_le_right n (Nat.pos_of_ne_zero H0.out)))
  go_enter Tryz.func46,Tryz.ntmps46
  go_wp2_with fail
  rw [← HW.out]
  clear HW
  go_wp2_with fail
  refine (r3Gcd_any (HA.out.rd.ext b1) (HB.out.rd.ext b1) (by omega) (by omega)).mono ?_
  rintro e w4 ⟨v4,rfl,b4,o4⟩
  have O4:=Lib.hid o4
  clear o4
  go_wp2_with fail
  refine (r3DivMod_any (HA.out.rd.ext (Ext.trans b1 b4)) O4.out (by have:=hg0.out;omega) (by omega) (by have:=hgl.out;omega)).mono ?_
  rintro e w5 ⟨_,rfl,b5,v5,r5,rfl,o5,_⟩
  rw [bval_bitsOf] at o5
  have O5:=Lib.hid o5
  clear o5
  go_wp2_with fail
  refine (r3DivMod_any (HB.out.rd.ext (Ext.trans b1 (Ext.trans b4 b5))) (O4.out.ext b5) (by have:=hg0.out;omega) (by omega) (by have:=hgl.out;omega)).mono ?_
  rintro e w6 ⟨_,rfl,b6,v6,r6,rfl,o6,_⟩
  rw [bval_bitsOf] at o6
  have O6:=Lib.hid o6
  clear o6
  obtain ⟨a5,c5,rfl,-,-,-,-⟩:=O5.out.rd.shape
  obtain ⟨a6,c6,rfl,-,-,-,-⟩:=O6.out.rd.shape
  have hz:=Lib.hid b4.size
  obtain ⟨_,_,_,j0,j1,j2,g0,g1,g2⟩:=(C1.out.ext (Ext.trans b4 (Ext.trans b5 b6))).cells
  cases s
  ·skip
   go_wp2_with fail
   refine bodyPost_ret (v:=.agg #[.bool false,.slice a5 (bitsOf (n / Nat.gcd n d)).length c5,.slice a6 (bitsOf (d / Nat.gcd n d)).length c6]) (by simp [results,Tryz.results46,go_sem,j0,j1,j2]) rfl ?_
   exact hR.out _ _ (Gives.mk (put3_below (Ext.trans b1 (Ext.trans b4 (Ext.trans b5 b6))) (Nat.le_refl _) _ _ _) ⟨_,_,agg_eq (hE.out false (by simp)),by rw [hF.out];exact ((O5.out.ext b6).put (by have:=hz.out;omega) _ _ _).mono (by have:=hz.out;omega),by rw [hG.out];exact (O6.out.put (by have:=hz.out;have:=b5.size;omega) _ _ _).mono (by have:=hz.out;have:=b5.size;omega)⟩)
  ·by_cases hn:0 < n / Nat.gcd n d
   ·have eN:0 < (bitsOf (n / Nat.gcd n d)).length:=bits_len_pos.2 hn
    go_wp2_with fail
    refine bodyPost_ret (v:=.agg #[.bool true,.slice a5 (bitsOf (n / Nat.gcd n d)).length c5,.slice a6 (bitsOf (d / Nat.gcd n d)).length c6]) (by simp [results,Tryz.results46,go_sem,j0,j1,j2]) rfl ?_
    exact hR.out _ _ (Gives.mk (put3_below (Ext.trans b1 (Ext.trans b4 (Ext.trans b5 b6))) (Nat.le_refl _) _ _ _) ⟨_,_,agg_eq (hE.out true (by simp [hn])),by rw [hF.out];exact ((O5.out.ext b6).put (by have:=hz.out;omega) _ _ _).mono (by have:=hz.out;omega),by rw [hG.out];exact (O6.out.put (by have:=hz.out;have:=b5.size;omega) _ _ _).mono (by have:=hz.out;have:=b5.size;omega)⟩)
   ·have eN:(bitsOf (n / Nat.gcd n d)).length≤0:=by have:=bits_len_pos (x:=n / Nat.gcd n d);omega
    go_wp2_with fail
    refine bodyPost_ret (v:=.agg #[.bool false,.slice a5 (bitsOf (n / Nat.gcd n d)).length c5,.slice a6 (bitsOf (d / Nat.gcd n d)).length c6]) (by simp [results,Tryz.results46,go_sem,j0,j1,j2,List.length_eq_zero_iff.1 (Nat.le_zero.1 eN)]) rfl ?_
    exact hR.out _ _ (Gives.mk (put3_below (Ext.trans b1 (Ext.trans b4 (Ext.trans b5 b6))) (Nat.le_refl _) _ _ _) ⟨_,_,agg_eq (hE.out false (by simp [hn])),by rw [hF.out];exact ((O5.out.ext b6).put (by have:=hz.out;omega) _ _ _).mono (by have:=hz.out;omega),by rw [hG.out];exact (O6.out.put (by have:=hz.out;have:=b5.size;omega) _ _ _).mono (by have:=hz.out;have:=b5.size;omega)⟩)
open Go.RowKit Go.Att

theorem r5low_any {w:World} {v:Value} {q:Rat} (hq:RdP w v q):
  Calls Tryz.prog 102 #[v] w (Gives w fun v' w'=>RdB w' v' (bitsOf q.den)):=by
 refine via fun R hR=>?_
 obtain ⟨n,d,rfl,hn,hd⟩:=hq
 have HD:=Lib.hid hd
 obtain ⟨a,c,rfl,-,-,-,-⟩:=hd.shape
 clear hn hd
 have hl:(((bitsOf q.den).length:Int) == 0)=false:=beqF (by have:=(bits_len_pos (x:=q.den)).2 q.den_pos;omega)
 go_enter Tryz.func102,Tryz.ntmps102
 go_wp2_with fail
 exact hR.out _ _ (Gives.mk (Ext.alloc _ _) (HD.out.ext (Ext.alloc _ _)))

theorem r5sign_any {w:World} {v:Value} {q:Rat} (hq:RdP w v q):
  Calls Tryz.prog 71 #[v] w (Gives w fun v' _=>v'=.int .i64 q.num.sign):=by
 refine via fun R hR=>?_
 obtain ⟨n,d,rfl,hn,hd⟩:=hq
 obtain ⟨a,c,rfl,-,-,-,-⟩:=hn.shape
 clear hn hd
 rcases Int.lt_trichotomy q.num 0 with h | h | h
 ·have e:q.num.sign = -1:=Int.sign_eq_neg_one_of_neg h
  have hl:(((bitsOf q.num.natAbs).length:Int) == 0)=false:=beqF (by have:=bits_len_pos.2 (show 0 < q.num.natAbs by omega);omega)
  have hs:decide (q.num < 0)=true:=decide_eq_true h
  rw [e] at hR
  rw [hs]
  go_enter Tryz.func71,Tryz.ntmps71
  go_wp2_with fail
  exact hR.out _ _ (Gives.mk (Ext.alloc _ _) rfl)
 ·have e:q.num.sign=0:=by rw [h];rfl
  have hl:(((bitsOf q.num.natAbs).length:Int) == 0)=true:=beqT (by have:=bits_len_pos (x:=q.num.natAbs);omega)
  rw [e] at hR
  clear h e
  go_enter Tryz.func71,Tryz.ntmps71
  go_wp2_with fail
  exact hR.out _ _ (Gives.mk (Ext.alloc _ _) rfl)
 ·have e:q.num.sign=1:=Int.sign_eq_one_of_pos h
  have hl:(((bitsOf q.num.natAbs).length:Int) == 0)=false:=beqF (by have:=bits_len_pos.2 (show 0 < q.num.natAbs by omega);omega)
  have hs:decide (q.num < 0)=false:=decide_eq_false (by omega)
  rw [e] at hR
  rw [hs]
  go_enter Tryz.func71,Tryz.ntmps71
  go_wp2_with fail
  exact hR.out _ _ (Gives.mk (Ext.alloc _ _) rfl)
open Go.RowKit Go.Att

theorem r5of_to {w:World} {s:Bool} {va vb:Value} {n d:Nat} {r:Rat} (B:Nat) (ha:OwnB 4 B w va (bitsOf n)) (hb:OwnB 4 B w vb (bitsOf d)) (hB:B≤w.heap.size) (hna:(bitsOf n).length≤100000000) (hnb:(bitsOf d).length≤100000000) (h0:d≠0) (hr:mkQ s n d=r):
  Calls Tryz.prog 46 #[.bool s,va,vb] w (Gives w fun v' w'=>OwnP 4 B w' v' r):=hr ▸ r5of_any hB ha hb hna hnb h0
theorem r3mul_to {w:World} {va vb:Value} (n m:Nat) (ha:RdB w va (bitsOf n)) (hb:RdB w vb (bitsOf m)) (hla:(bitsOf n).length≤50000) (hlb:(bitsOf m).length≤50000):
  Calls Tryz.prog 101 #[va,vb] w (Gives w fun v' w'=>OwnB 4 w.heap.size w' v' (bitsOf (n*m))):=by
 have h:=r3Mul_any ha hb (by omega) (by omega)
 rw [bval_bitsOf,bval_bitsOf] at h
 exact h

theorem r5mul_any {w:World} {va vb:Value} {p q:Rat} (hp:RdP w va p) (hq:RdP w vb q) (sp:Sb 50000 p) (sq:Sb 50000 q):
  Calls Tryz.prog 73 #[va,vb] w (Gives w fun v' w'=>OwnP 4 w.heap.size w' v' (p*q)):=by
 refine via fun R hR=>?_
 generalize hr:p*q=r at hR
 have HRR:=Lib.hid hr
 have HP:=Lib.hid hp
 have HQ:=Lib.hid hq
 clear hr
 obtain ⟨n,d,rfl,hn,hd⟩:=hp
 obtain ⟨m,c,rfl,hm,hc⟩:=hq
 have HN:=Lib.hid hn
 have HM:=Lib.hid hm
 have SP:=Lib.hid sp
 have SQ:=Lib.hid sq
 clear hn hd hm hc sp sq
 obtain ⟨w1,hw1,b1,c1,c2,c3,z1⟩:=box2R w (.bool (decide (p.num < 0))) n d (.bool (decide (q.num < 0))) m c (.bool false) (.slice none 0 0) (.slice none 0 0) 87 87 87
 have C1:=Lib.hid c1
 have C2:=Lib.hid c2
 have C3:=Lib.hid c3
 have HW:=Lib.hid hw1
 clear c1 c2 c3 hw1
 go_enter Tryz.func73,Tryz.ntmps73
 go_wp2_with fail
 rw [← HW.out]
 clear HW
 have b2:=drew_ext w1
 have XE:=b2
 go_region_held3 (fun w'=>(w'.cell? ⟨w.heap.size,0,none⟩=some (.bool (decide (p.num < 0)))∧w'.cell? ⟨w.heap.size,1,none⟩=some (n)∧w'.cell? ⟨w.heap.size,2,none⟩=some (d))∧(w'.cell? ⟨w.heap.size+1,0,none⟩=some (.bool (decide (q.num < 0)))∧w'.cell? ⟨w.heap.size+1,1,none⟩=some (m)∧w'.cell? ⟨w.heap.size+1,2,none⟩=some (c))) (first | exact ⟨C1.out.ext XE,C2.out.ext XE⟩ | exact ⟨(C1.out.ext XE).put (by omega) _ _ _,(C2.out.ext XE).put (by omega) _ _ _⟩)
  (first
   | (go_at_call 46;refine (r5of_to (r:=r) w1.heap.size ((O3.out.ext (Ext.trans b4 (Ext.trans b5 b6))).mono (Nat.le_refl _)) (O6.out.mono (Below.size (Ext.trans b2 (Ext.trans b3 (Ext.trans b4 b5))))) (Below.size (Ext.trans b2 (Ext.trans b3 (Ext.trans b4 (Ext.trans b5 b6))))) (by have:=bits_mul SP.out.1 SQ.out.1;omega) (by have:=bits_mul SP.out.2 SQ.out.2;omega) (Nat.mul_ne_zero p.den_nz q.den_nz) ((mulQ p q).trans HRR.out)).mono ?_;rintro e w7 ⟨_,rfl,b7,n7,d7,rfl,on7,od7⟩;have ON7:=Lib.hid on7;have OD7:=Lib.hid od7;clear on7 od7;obtain ⟨an7,cn7,rfl,-,-,-,-⟩:=ON7.out.rd.shape;obtain ⟨ad7,cd7,rfl,-,-,-,-⟩:=OD7.out.rd.shape;(first | have XE:=Ext.trans XE b7 | have XE:=Ext.trans (Ext.trans XE (Ext.alloc _ _)) b7);obtain ⟨_,_,_,j0,j1,j2,g0,g1,g2⟩:=(C3.out.ext XE).cells)
   | (go_at_call 101;refine (r3mul_to _ _ (O4.out.ext b5) O5.out SP.out.2 SQ.out.2).mono ?_;rintro e w6 ⟨v6,rfl,b6,o6⟩;have O6:=Lib.hid o6;clear o6;(first | have XE:=Ext.trans XE b6 | have XE:=Ext.trans (Ext.trans XE (Ext.alloc _ _)) b6))
   | (go_at_call 102;refine (r5low_any (HQ.out.ext (Ext.trans b1 (Ext.trans b2 (Ext.trans b3 b4))))).mono ?_;rintro e w5 ⟨v5,rfl,b5,o5⟩;have O5:=Lib.hid o5;clear o5;(first | have XE:=Ext.trans XE b5 | have XE:=Ext.trans (Ext.trans XE (Ext.alloc _ _)) b5))
   | (go_at_call 102;refine (r5low_any (HP.out.ext (Ext.trans b1 (Ext.trans b2 b3)))).mono ?_;rintro e w4 ⟨v4,rfl,b4,o4⟩;have O4:=Lib.hid o4;clear o4;(first | have XE:=Ext.trans XE b4 | have XE:=Ext.trans (Ext.trans XE (Ext.alloc _ _)) b4))
   | (go_at_call 101;refine (r3mul_to _ _ (HN.out.ext (Ext.trans b1 b2)) (HM.out.ext (Ext.trans b1 b2)) SP.out.1 SQ.out.1).mono ?_;rintro e w3 ⟨v3,rfl,b3,o3⟩;have O3:=Lib.hid o3;clear o3;(first | have XE:=Ext.trans XE b3 | have XE:=Ext.trans (Ext.trans XE (Ext.alloc _ _)) b3)))
 go_wp2_with fail
 refine bodyPost_ret (v:=.agg #[.bool (decide (r.num < 0)),.slice an7 (bitsOf r.num.natAbs).length cn7,.slice ad7 (bitsOf r.den).length cd7]) (by simp [results,Tryz.results73,go_sem,j0,j1,j2]) rfl ?_
 exact hR.out _ _ (Gives.mk (put3_below (Ext.trans b1 (Ext.trans b2 (Ext.trans b3 (Ext.trans b4 (Ext.trans b5 (Ext.trans b6 b7)))))) (by omega) _ _ _) ⟨_,_,rfl,(ON7.out.put (by omega) _ _ _).mono (by omega),(OD7.out.put (by omega) _ _ _).mono (by omega)⟩)
open Go.RowKit Go.Att

theorem r5sum_any {w:World} {s t:Bool} {va vb:Value} {n m:Nat} (ha:RdB w va (bitsOf n)) (hb:RdB w vb (bitsOf m)) (hna:(bitsOf n).length≤1000000000) (hnb:(bitsOf m).length≤1000000000):
  Calls Tryz.prog 100 #[.bool s,va,.bool t,vb] w (Gives w fun v' w'=>∃ o,v'=.tuple #[.bool (sumS s n t m),o]∧OwnB 4 w.heap.size w' o (bitsOf (sumN s n t m))):=by
 refine via fun R hR=>?_
 have HA:=Lib.hid ha
 have HB:=Lib.hid hb
 clear ha hb
 unfold sumS sumN at hR
 by_cases hst:s=t
 ·subst hst
  rw [if_pos rfl,if_pos rfl] at hR
  go_enter Tryz.func100,Tryz.ntmps100
  go_wp2_with fail
  refine (rAdd_any HA.out HB.out (by omega) (by omega)).mono ?_
  rintro e w1 ⟨v1,rfl,b1,o1⟩
  have O1:=Lib.hid o1
  clear o1
  rw [bval_bitsOf,bval_bitsOf] at O1
  go_wp2_with fail
  exact hR.out _ _ (Gives.mk b1 ⟨_,rfl,O1.out⟩)
 ·rw [if_neg hst,if_neg hst] at hR
  have hs:(s == t)=false:=by cases s <;> cases t <;> simp at hst ⊢
  clear hst
  go_enter Tryz.func100,Tryz.ntmps100
  go_wp2_with fail
  refine (rCmp_any _ _ HA.out HB.out).mono ?_
  rintro e w1 ⟨_,rfl,b1,rfl⟩
  rcases cmpN_cases n m with ⟨h,e⟩ | ⟨h,e⟩ | ⟨h,e⟩
  ·rw [if_neg (by omega),if_neg (by omega)] at hR
   rw [e]
   clear e
   go_wp2_with fail
   refine (rSub_any (HB.out.ext b1) (HA.out.ext b1) (by rw [bval_bitsOf,bval_bitsOf];omega) (by omega)).mono ?_
   rintro e w2 ⟨v2,rfl,b2,o2⟩
   have O2:=Lib.hid o2
   clear o2
   rw [bval_bitsOf,bval_bitsOf] at O2
   go_wp2_with fail
   exact hR.out _ _ (Gives.mk (Ext.trans b1 b2) ⟨_,rfl,O2.out.mono b1.size⟩)
  ·rw [if_pos (by omega),if_pos (by omega)] at hR
   rw [e]
   clear e
   go_wp2_with fail
   refine (rSub_any (HA.out.ext b1) (HB.out.ext b1) (by rw [bval_bitsOf,bval_bitsOf];omega) (by omega)).mono ?_
   rintro e w2 ⟨v2,rfl,b2,o2⟩
   have O2:=Lib.hid o2
   clear o2
   rw [bval_bitsOf,bval_bitsOf] at O2
   go_wp2_with fail
   exact hR.out _ _ (Gives.mk (Ext.trans b1 b2) ⟨_,rfl,O2.out.mono b1.size⟩)
  ·rw [if_pos (by omega),if_pos (by omega)] at hR
   rw [e]
   clear e
   go_wp2_with fail
   refine (rSub_any (HA.out.ext b1) (HB.out.ext b1) (by rw [bval_bitsOf,bval_bitsOf];omega) (by omega)).mono ?_
   rintro e w2 ⟨v2,rfl,b2,o2⟩
   have O2:=Lib.hid o2
   clear o2
   rw [bval_bitsOf,bval_bitsOf] at O2
   go_wp2_with fail
   exact hR.out _ _ (Gives.mk (Ext.trans b1 b2) ⟨_,rfl,O2.out.mono b1.size⟩)
open Go.RowKit Go.Att

theorem r5add_any {w:World} {va vb:Value} {p q:Rat} (hp:RdP w va p) (hq:RdP w vb q) (sp:Sb 50000 p) (sq:Sb 50000 q):
  Calls Tryz.prog 72 #[va,vb] w (Gives w fun v' w'=>OwnP 4 w.heap.size w' v' (p+q)):=by
 refine via fun R hR=>?_
 generalize hr:p+q=r at hR
 have HRR:=Lib.hid hr
 have HP:=Lib.hid hp
 have HQ:=Lib.hid hq
 clear hr
 obtain ⟨n,d,rfl,hn,hd⟩:=hp
 obtain ⟨m,c,rfl,hm,hc⟩:=hq
 have HN:=Lib.hid hn
 have HM:=Lib.hid hm
 have SP:=Lib.hid sp
 have SQ:=Lib.hid sq
 clear hn hd hm hc sp sq
 obtain ⟨w1,hw1,b1,c1,c2,c3,z1⟩:=box2R w (.bool (decide (p.num < 0))) n d (.bool (decide (q.num < 0))) m c (.bool false) (.slice none 0 0) (.slice none 0 0) 87 87 87
 have C1:=Lib.hid c1
 have C2:=Lib.hid c2
 have C3:=Lib.hid c3
 have HW:=Lib.hid hw1
 clear c1 c2 c3 hw1
 go_enter Tryz.func72,Tryz.ntmps72
 go_wp2_with fail
 rw [← HW.out]
 clear HW
 have b2:=drew_ext w1
 have XE:=b2
 go_region_held3 (fun w'=>(w'.cell? ⟨w.heap.size,0,none⟩=some (.bool (decide (p.num < 0)))∧w'.cell? ⟨w.heap.size,1,none⟩=some (n)∧w'.cell? ⟨w.heap.size,2,none⟩=some (d))∧(w'.cell? ⟨w.heap.size+1,0,none⟩=some (.bool (decide (q.num < 0)))∧w'.cell? ⟨w.heap.size+1,1,none⟩=some (m)∧w'.cell? ⟨w.heap.size+1,2,none⟩=some (c))) (exact ⟨C1.out.ext XE,C2.out.ext XE⟩)
  (first
   | (go_at_call 100;refine (r5sum_any (O4.out.rd.ext (Ext.trans b5 b6)) O6.out.rd (by have:=bits_mul SP.out.1 SQ.out.2;omega) (by have:=bits_mul SQ.out.1 SP.out.2;omega)).mono ?_;rintro e w7 ⟨_,rfl,b7,v7,rfl,o7⟩;have O7:=Lib.hid o7;clear o7;(first | have XE:=Ext.trans XE b7 | have XE:=Ext.trans (Ext.trans XE (Ext.alloc _ _)) b7))
   | (go_at_call 101;refine (r3mul_to _ _ (HM.out.ext (Ext.trans b1 (Ext.trans b2 (Ext.trans b3 (Ext.trans b4 b5))))) O5.out SQ.out.1 SP.out.2).mono ?_;rintro e w6 ⟨v6,rfl,b6,o6⟩;have O6:=Lib.hid o6;clear o6;(first | have XE:=Ext.trans XE b6 | have XE:=Ext.trans (Ext.trans XE (Ext.alloc _ _)) b6))
   | (go_at_call 102;refine (r5low_any (HP.out.ext (Ext.trans b1 (Ext.trans b2 (Ext.trans b3 b4))))).mono ?_;rintro e w5 ⟨v5,rfl,b5,o5⟩;have O5:=Lib.hid o5;clear o5;(first | have XE:=Ext.trans XE b5 | have XE:=Ext.trans (Ext.trans XE (Ext.alloc _ _)) b5))
   | (go_at_call 101;refine (r3mul_to _ _ (HN.out.ext (Ext.trans b1 (Ext.trans b2 b3))) O3.out SP.out.1 SQ.out.2).mono ?_;rintro e w4 ⟨v4,rfl,b4,o4⟩;have O4:=Lib.hid o4;clear o4;(first | have XE:=Ext.trans XE b4 | have XE:=Ext.trans (Ext.trans XE (Ext.alloc _ _)) b4))
   | (go_at_call 102;refine (r5low_any (HQ.out.ext (Ext.trans b1 b2))).mono ?_;rintro e w3 ⟨v3,rfl,b3,o3⟩;have O3:=Lib.hid o3;clear o3;(first | have XE:=Ext.trans XE b3 | have XE:=Ext.trans (Ext.trans XE (Ext.alloc _ _)) b3)))
 go_upto_region 2 with (fail)
 have D1:=Lib.hid (C1.out.ext (Ext.trans b2 (Ext.trans b3 (Ext.trans b4 (Ext.trans b5 (Ext.trans b6 b7))))))
 have D2:=Lib.hid (C2.out.ext (Ext.trans b2 (Ext.trans b3 (Ext.trans b4 (Ext.trans b5 (Ext.trans b6 b7))))))
 have D3:=Lib.hid (C3.out.ext (Ext.trans b2 (Ext.trans b3 (Ext.trans b4 (Ext.trans b5 (Ext.trans b6 b7))))))
 clear C1 C2 C3 O3 O4 O5 O6
 have hz:=Lib.hid (Below.size (Ext.trans b2 (Ext.trans b3 (Ext.trans b4 (Ext.trans b5 b6)))))
 have b8:=drew_ext w7
 have XE:=b8
 go_region_held3 (fun w'=>(w'.cell? ⟨w.heap.size,0,none⟩=some (.bool (decide (p.num < 0)))∧w'.cell? ⟨w.heap.size,1,none⟩=some (n)∧w'.cell? ⟨w.heap.size,2,none⟩=some (d))∧(w'.cell? ⟨w.heap.size+1,0,none⟩=some (.bool (decide (q.num < 0)))∧w'.cell? ⟨w.heap.size+1,1,none⟩=some (m)∧w'.cell? ⟨w.heap.size+1,2,none⟩=some (c))) (first | exact ⟨D1.out.ext XE,D2.out.ext XE⟩ | exact ⟨(D1.out.ext XE).put (by omega) _ _ _,(D2.out.ext XE).put (by omega) _ _ _⟩)
  (first
   | (go_at_call 46;refine (r5of_to (r:=r) w1.heap.size ((O7.out.ext (Ext.trans b8 (Ext.trans b9 (Ext.trans b10 b11)))).mono hz.out) (O11.out.mono (Below.size (Ext.trans b2 (Ext.trans b3 (Ext.trans b4 (Ext.trans b5 (Ext.trans b6 (Ext.trans b7 (Ext.trans b8 (Ext.trans b9 b10)))))))))) (Below.size (Ext.trans b2 (Ext.trans b3 (Ext.trans b4 (Ext.trans b5 (Ext.trans b6 (Ext.trans b7 (Ext.trans b8 (Ext.trans b9 (Ext.trans b10 b11)))))))))) (by have:=blen_mono (sumN_le (decide (p.num < 0)) (decide (q.num < 0)) (p.num.natAbs*q.den) (q.num.natAbs*p.den));have:=blen_add (bits_mul SP.out.1 SQ.out.2) (bits_mul SQ.out.1 SP.out.2);omega) (by have:=bits_mul SP.out.2 SQ.out.2;omega) (Nat.mul_ne_zero p.den_nz q.den_nz) ((addQ p q).trans HRR.out)).mono ?_;rintro e w12 ⟨_,rfl,b12,n12,d12,rfl,on12,od12⟩;have ON12:=Lib.hid on12;have OD12:=Lib.hid od12;clear on12 od12;obtain ⟨an12,cn12,rfl,-,-,-,-⟩:=ON12.out.rd.shape;obtain ⟨ad12,cd12,rfl,-,-,-,-⟩:=OD12.out.rd.shape;(first | have XE:=Ext.trans XE b12 | have XE:=Ext.trans (Ext.trans XE (Ext.alloc _ _)) b12);obtain ⟨_,_,_,j0,j1,j2,g0,g1,g2⟩:=(D3.out.ext XE).cells)
   | (go_at_call 101;refine (r3mul_to _ _ (O9.out.ext b10) O10.out SP.out.2 SQ.out.2).mono ?_;rintro e w11 ⟨v11,rfl,b11,o11⟩;have O11:=Lib.hid o11;clear o11;(first | have XE:=Ext.trans XE b11 | have XE:=Ext.trans (Ext.trans XE (Ext.alloc _ _)) b11))
   | (go_at_call 102;refine (r5low_any (HQ.out.ext (Ext.trans b1 (Ext.trans b2 (Ext.trans b3 (Ext.trans b4 (Ext.trans b5 (Ext.trans b6 (Ext.trans b7 (Ext.trans b8 b9)))))))))).mono ?_;rintro e w10 ⟨v10,rfl,b10,o10⟩;have O10:=Lib.hid o10;clear o10;(first | have XE:=Ext.trans XE b10 | have XE:=Ext.trans (Ext.trans XE (Ext.alloc _ _)) b10))
   | (go_at_call 102;refine (r5low_any (HP.out.ext (Ext.trans b1 (Ext.trans b2 (Ext.trans b3 (Ext.trans b4 (Ext.trans b5 (Ext.trans b6 (Ext.trans b7 b8))))))))).mono ?_;rintro e w9 ⟨v9,rfl,b9,o9⟩;have O9:=Lib.hid o9;clear o9;(first | have XE:=Ext.trans XE b9 | have XE:=Ext.trans (Ext.trans XE (Ext.alloc _ _)) b9)))
 go_wp2_with fail
 refine bodyPost_ret (v:=.agg #[.bool (decide (r.num < 0)),.slice an12 (bitsOf r.num.natAbs).length cn12,.slice ad12 (bitsOf r.den).length cd12]) (by simp [results,Tryz.results72,go_sem,j0,j1,j2]) rfl ?_
 exact hR.out _ _ (Gives.mk (put3_below (Ext.trans b1 (Ext.trans b2 (Ext.trans b3 (Ext.trans b4 (Ext.trans b5 (Ext.trans b6 (Ext.trans b7 (Ext.trans b8 (Ext.trans b9 (Ext.trans b10 (Ext.trans b11 b12))))))))))) (by omega) _ _ _) ⟨_,_,rfl,(ON12.out.put (by omega) _ _ _).mono (by omega),(OD12.out.put (by omega) _ _ _).mono (by omega)⟩)
open Go.RowKit Go.Att

theorem r5int_any {w:World} {u:Int} (hu : -9223372036854775808≤u∧u≤9223372036854775807):
  Calls Tryz.prog 66 #[.int .i64 u] w (Gives w fun v' w'=>OwnP 4 w.heap.size w' v' (u:Rat)):=by
 refine via fun R hR=>?_
 obtain ⟨w1,hw1,b1,c3,z1⟩:=boxR w (.bool false) (.slice none 0 0) (.slice none 0 0) 87
 have C3:=Lib.hid c3
 have HW:=Lib.hid hw1
 clear c3 hw1
 have hden:(u:Rat).den=1:=rfl
 have hnum:(u:Rat).num=u:=rfl
 generalize (u:Rat)=r at hR hden hnum
 have HDEN:Hid (r.den=1):=hden
 by_cases h0:u < 0
 ·obtain ⟨n,hn⟩:∃ n:Nat,u = -(n:Int) - 1:=⟨u.natAbs - 1,by omega⟩
  have e0:IntKind.i64.wrap (u+1) = -(n:Int):=by simp [IntKind.wrap,IntKind.bits,IntKind.signed];omega
  have e1:IntKind.i64.wrap (-(-(n:Int)))=n:=by simp [IntKind.wrap,IntKind.bits,IntKind.signed];omega
  have e:IntKind.u64.wrap (n:Int)=n:=by simp [IntKind.wrap,IntKind.bits,IntKind.signed];omega
  have HNUM:Hid (r.num.natAbs=n+1):=by show _=_;rw [hnum];omega
  have HSG:Hid (true=decide (r.num < 0)):=by show _=_;rw [hnum];simp [h0]
  have hn64:n≤9223372036854775807:=by omega
  clear hnum hden hn
  go_enter Tryz.func66,Tryz.ntmps66
  go_wp2_with fail
  rw [← HW.out]
  clear HW
  refine (rWord_any n (by omega)).mono ?_
  rintro e w2 ⟨v2,rfl,b2,o2⟩
  have O2:=Lib.hid o2
  clear o2
  go_wp2_with fail
  refine (rWord_any 1 (by omega)).mono ?_
  rintro e w3 ⟨v3,rfl,b3,o3⟩
  have O3:=Lib.hid o3
  clear o3
  go_wp2_with fail
  refine (rAdd_any (O2.out.rd.ext b3) O3.out.rd (by have:=(bitsOf_len n 64).2 (by omega);omega) (by have:=(bitsOf_len 1 1).2 (by decide);omega)).mono ?_
  rintro e w4 ⟨v4,rfl,b4,o4⟩
  have O4:=Lib.hid o4
  clear o4
  rw [bval_bitsOf,bval_bitsOf] at O4
  go_wp2_with fail
  refine (rWord_any 1 (by omega)).mono ?_
  rintro e w5 ⟨v5,rfl,b5,o5⟩
  have O5:=Lib.hid o5
  clear o5 O2 O3
  obtain ⟨a2,c2,rfl,-,-,-,-⟩:=O4.out.rd.shape
  obtain ⟨a3,c3,rfl,-,-,-,-⟩:=O5.out.rd.shape
  obtain ⟨_,_,_,j0,j1,j2,g0,g1,g2⟩:=(C3.out.ext (Ext.trans b2 (Ext.trans b3 (Ext.trans b4 b5)))).cells
  go_wp2_with fail
  refine bodyPost_ret (v:=.agg #[.bool true,.slice a2 (bitsOf (n+1)).length c2,.slice a3 (bitsOf 1).length c3]) (by simp [results,Tryz.results66,go_sem,j0,j1,j2]) rfl ?_
  have hz:=Lib.hid (Below.size (Ext.trans b2 b3))
  exact hR.out _ _ (Gives.mk (put3_below (Ext.trans b1 (Ext.trans b2 (Ext.trans b3 (Ext.trans b4 b5)))) (Nat.le_refl _) _ _ _) ⟨_,_,agg_eq HSG.out,by rw [HNUM.out];exact ((O4.out.ext b5).put (by have:=hz.out;omega) _ _ _).mono (by have:=hz.out;omega),by rw [HDEN.out];exact (O5.out.put (by have:=hz.out;have:=b4.size;omega) _ _ _).mono (by have:=hz.out;have:=b4.size;omega)⟩)
 ·obtain ⟨n,rfl⟩:=Int.eq_ofNat_of_zero_le (show 0≤u by omega)
  have e:IntKind.u64.wrap (n:Int)=n:=by simp [IntKind.wrap,IntKind.bits,IntKind.signed];omega
  have HNUM:Hid (r.num.natAbs=n):=by show _=_;rw [hnum];omega
  have HSG:Hid (false=decide (r.num < 0)):=by show _=_;rw [hnum];simp
  have hn64:n≤9223372036854775808:=by omega
  clear hnum hden
  go_enter Tryz.func66,Tryz.ntmps66
  go_wp2_with fail
  rw [← HW.out]
  clear HW
  refine (rWord_any n (by omega)).mono ?_
  rintro e w2 ⟨v2,rfl,b2,o2⟩
  have O2:=Lib.hid o2
  clear o2
  go_wp2_with fail
  refine (rWord_any 1 (by omega)).mono ?_
  rintro e w3 ⟨v3,rfl,b3,o3⟩
  have O3:=Lib.hid o3
  clear o3
  obtain ⟨a2,c2,rfl,-,-,-,-⟩:=O2.out.rd.shape
  obtain ⟨a3,c3,rfl,-,-,-,-⟩:=O3.out.rd.shape
  obtain ⟨_,_,_,j0,j1,j2,g0,g1,g2⟩:=(C3.out.ext (Ext.trans b2 b3)).cells
  go_wp2_with fail
  refine bodyPost_ret (v:=.agg #[.bool false,.slice a2 (bitsOf n).length c2,.slice a3 (bitsOf 1).length c3]) (by simp [results,Tryz.results66,go_sem,j0,j1,j2]) rfl ?_
  exact hR.out _ _ (Gives.mk (put3_below (Ext.trans b1 (Ext.trans b2 b3)) (Nat.le_refl _) _ _ _) ⟨_,_,agg_eq HSG.out,by rw [HNUM.out];exact ((O2.out.ext b3).put (by omega) _ _ _).mono (by omega),by rw [HDEN.out];exact (O3.out.put (by have:=b2.size;omega) _ _ _).mono (by have:=b2.size;omega)⟩)
open Go.RowKit Go.Att

open Go.RowKit Go.Att

end Go.Proofs.YtdooldpgnjmpfaaGreatDoor
