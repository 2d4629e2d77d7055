/- A group of texts: PRatBelow, PRatMade, PRatSum2, PRatAdd, PRatSign, PRatInt, PRatMul, PRatInv, PRatDiv, PRatFrac, PRatParts, PRatMake, PRatNeg, PRatSub, PRatCmp, PRatMin -/
import Derived.Test.YtdooldpgnjmpfaaGreatDoorPartAE
import Derived.Test.YtdooldpgnjmpfaaGreatDoorPartAB
import Derived.Test.YtdooldpgnjmpfaaGreatDoorPartBC
import Derived.Deep.RegionHeld3
import Derived.Deep.DeepCutAuto
namespace Go.Proofs.YtdooldpgnjmpfaaGreatDoor
open Go.RowKit Go.Att

theorem one_any {w:World}:Calls Tryz.prog 104 #[] w (Gives w fun v' w'=>OwnL 119 w.heap.size w' v' [1]):=by
 refine via fun R hR=>?_
 go_enter Tryz.func104,Tryz.ntmps104
 go_wp2_with fail
 exact hR.out _ _ (Gives.mk (Ext.alloc _ _) ⟨World.ownsRow_lit w _ _ (Nat.le_refl _) (by decide) rfl,Fit.one (by decide)⟩)

theorem below_any {w:World} {s n d:Value} {D:Nat} (hd:RdL w d (dens D)):
  Calls Tryz.prog 77 #[.agg #[s,n,d]] w (Gives w fun v' w'=>RdL w' v' (bel D)):=by
 refine via fun R hR=>?_
 have HD:=Lib.hid hd
 obtain ⟨a,c,rfl,h1,h2,_,_⟩:=hd.1.shape
 clear hd
 by_cases h:dens D=[]
 ·have hl:(((dens D).length:Int) == 0)=true:=beqT (by simp [h])
  have e:Hid (bel D=[1]):=bel_one h
  clear h
  go_enter Tryz.func77,Tryz.ntmps77
  go_wp2_with fail
  refine (one_any).mono ?_
  rintro e w1 ⟨v1,rfl,b1,o1⟩
  have O1:=Lib.hid o1
  clear o1
  go_wp2_with fail
  exact hR.out _ _ (Gives.mk ((Ext.alloc _ _).trans b1) (by rw [e.out];exact O1.out.rd))
 ·have hl:(((dens D).length:Int) == 0)=false:=beqF (by have:=List.length_pos_iff.2 h;omega)
  have e:Hid (bel D=dens D):=bel_same h
  clear h
  go_enter Tryz.func77,Tryz.ntmps77
  go_wp2_with fail
  exact hR.out _ _ (Gives.mk (Ext.alloc _ _) (by rw [e.out];exact HD.out.ext (Ext.alloc _ _)))
open Go.RowKit Go.Att

theorem made_any {w:World} {s:Bool} {va vb:Value} {xa xb:List Nat} (ha:RdL w va xa) (hb:RdL w vb xb) (hna:xa.length≤1099511627) (hnb:xb.length≤1099511627) (h0:nv xb≠0):
  Calls Tryz.prog 88 #[.bool s,va,vb] w (Gives w fun v' w'=>OwnQ 119 w.heap.size w' v' (mkQ s (nv xa) (nv xb))):=by
 refine via fun R hR=>?_
 have HA:=Lib.hid ha
 have HB:=Lib.hid hb
 have H0:=Lib.hid h0
 clear ha hb h0
 have b1:=Ext.alloc w (.cells #[.bool false,.slice none 0 0,.slice none 0 0] 59)
 have C1:=Lib.hid (Room3.new w (.bool false) (.slice none 0 0) (.slice none 0 0) 59)
 have z1:(w.alloc (.cells #[.bool false,.slice none 0 0,.slice none 0 0] 59)).heap.size=w.heap.size+1:=by simp
 go_enter Tryz.func88,Tryz.ntmps88
 go_upto_region 1 with (fail)
 generalize w.alloc (.cells #[.bool false,.slice none 0 0,.slice none 0 0] 59)=w1 at*
 go_wp2_with fail
 refine (gcd_any (HA.out.ext b1) (HB.out.ext b1) (by omega) (by omega)).mono ?_
 rintro e w2 ⟨v2,rfl,b2,o2⟩
 have O2:=Lib.hid o2
 clear o2
 go_wp2_with fail
 refine (one_any).mono ?_
 rintro e w3 ⟨v3,rfl,b3,o3⟩
 have O3:=Lib.hid o3
 clear o3
 go_wp2_with fail
 refine (cmp_any (O2.out.rd.ext b3) O3.out.rd).mono ?_
 rintro e w4 ⟨_,rfl,b4,rfl⟩
 rw [nv_limbs,show nv [1]=1 from val_one _ _]
 have hg0:=Lib.hid (Nat.gcd_pos_of_pos_right (nv xa) (Nat.pos_of_ne_zero H0.out))
 have hgl:(limbs (Nat.gcd (nv xa) (nv xb))).length≤xb.length:=Nat.le_trans (limbs_mono (Nat.gcd_le_right _ (Nat.pos_of_ne_zero H0.out))) (limbs_len_le HB.out.2)
 go_upto_if 15 with (fail)
 go_cut [1,2] (fun s1 s2 wx=>Ext w4 wx∧Hid (∃ ya yb,RdL wx s1 ya∧RdL wx s2 yb∧nv ya=nv xa / Nat.gcd (nv xa) (nv xb)∧nv yb=nv xb / Nat.gcd (nv xa) (nv xb)∧ya.length≤1099511627∧yb.length≤1099511627))
 case first=>
  by_cases hg:Nat.gcd (nv xa) (nv xb)=1
  ·rw [hg,cmpN_eq]
   go_wp2_with fail
   go_meet
   exact ⟨Ext.refl _,xa,xb,HA.out.ext (Ext.trans b1 (Ext.trans b2 (Ext.trans b3 b4))),HB.out.ext (Ext.trans b1 (Ext.trans b2 (Ext.trans b3 b4))),by rw [hg,Nat.div_one],by rw [hg,Nat.div_one],hna,hnb⟩
  ·rw [cmpN_gt (by have:=hg0.out;omega)]
   clear hg
   go_wp2_with fail
   refine (divmod_any (HA.out.ext (Ext.trans b1 (Ext.trans b2 (Ext.trans b3 b4)))) (O2.out.rd.ext (Ext.trans b3 b4)) (by omega) (by omega) (by rw [nv_limbs];have:=hg0.out;omega)).mono ?_
   rintro e w5 ⟨_,rfl,b5,v5,r5,rfl,o5,_⟩
   rw [nv_limbs] at o5
   have O5:=Lib.hid o5
   clear o5
   go_wp2_with fail
   refine (divmod_any (HB.out.ext (Ext.trans b1 (Ext.trans b2 (Ext.trans b3 (Ext.trans b4 b5))))) (O2.out.rd.ext (Ext.trans b3 (Ext.trans b4 b5))) (by omega) (by omega) (by rw [nv_limbs];have:=hg0.out;omega)).mono ?_
   rintro e w6 ⟨_,rfl,b6,v6,r6,rfl,o6,_⟩
   rw [nv_limbs] at o6
   have O6:=Lib.hid o6
   clear o6
   go_wp2_with fail
   go_meet
   exact ⟨Ext.trans b5 b6,_,_,O5.out.rd.ext b6,O6.out.rd,nv_limbs _,nv_limbs _,Nat.le_trans (limbs_mono (Nat.div_le_self _ _)) (Nat.le_trans (limbs_len_le HA.out.2) hna),Nat.le_trans (limbs_mono (Nat.div_le_self _ _)) (Nat.le_trans (limbs_len_le HB.out.2) hnb)⟩
 case rest=>
  obtain ⟨b5,hh⟩:=hcut
  obtain ⟨ya,yb,hya,hyb,hea,heb,hla,hlb⟩:=hh.out
  have HYA:=Lib.hid hya
  have HYB:=Lib.hid hyb
  have HEA:=Lib.hid hea
  have HEB:=Lib.hid heb
  clear hh hya hyb hea heb O2 O3
  go_wp2_with fail
  refine (norm_any HYA.out (by omega)).mono ?_
  rintro e w6 ⟨v6,rfl,b6,o6⟩
  have O6:=Lib.hid o6
  clear o6
  go_wp2_with fail
  refine (norm_any (HYB.out.ext b6) (by omega)).mono ?_
  rintro e w7 ⟨v7,rfl,b7,o7⟩
  have O7:=Lib.hid o7
  clear o7
  rw [HEA.out] at O6
  rw [HEB.out] at O7
  have hs5:=Lib.hid (Below.size (Ext.trans b2 (Ext.trans b3 (Ext.trans b4 b5))))
  have hs7b:=Lib.hid (Below.size (Ext.trans b2 (Ext.trans b3 (Ext.trans b4 (Ext.trans b5 (Ext.trans b6 b7))))))
  have C1':=Lib.hid (C1.out.ext (Ext.trans b2 (Ext.trans b3 (Ext.trans b4 (Ext.trans b5 (Ext.trans b6 b7))))))
  have hNp:=limbs_len_pos (x:=nv xa / Nat.gcd (nv xa) (nv xb))
  have HDV:=Lib.hid (nv_limbs (nv xb / Nat.gcd (nv xa) (nv xb)))
  have hE:Hid (∀ t:Bool,t=(s && decide (0 < nv xa / Nat.gcd (nv xa) (nv xb)))→t=decide ((mkQ s (nv xa) (nv xb)).num < 0)):=fun t ht=>by rw [ht,mkQ_neg _ _ _ H0.out]
  have hF:Hid (limbs (mkQ s (nv xa) (nv xb)).num.natAbs=limbs (nv xa / Nat.gcd (nv xa) (nv xb))):=by show _=_;rw [mkQ_abs _ _ _ H0.out]
  have hG:(dens (mkQ s (nv xa) (nv xb)).den=if nv xb / Nat.gcd (nv xa) (nv xb)=1 then [] else limbs (nv xb / Nat.gcd (nv xa) (nv xb))):=by rw [mkQ_den _ _ _ H0.out];rfl
  generalize limbs (nv xa / Nat.gcd (nv xa) (nv xb))=N at*
  generalize limbs (nv xb / Nat.gcd (nv xa) (nv xb))=D at*
  generalize nv xb / Nat.gcd (nv xa) (nv xb)=d at*
  obtain ⟨a6,c6,rfl,_,h6,_,_⟩:=O6.out.rd.1.shape
  obtain ⟨a7,c7,rfl,_,h7,_,_⟩:=O7.out.rd.1.shape
  cases s
  ·have eN:=hNp
   have b8:=Ext.alloc w7 (.cells #[.bool false,.slice a6 N.length c6,.slice a7 D.length c7] 59)
   have C8:=Lib.hid (Box3.new w7 (.bool false) (.slice a6 N.length c6) (.slice a7 D.length c7) 59)
   have R8:=Lib.hid (Room3.new w7 (.bool false) (.slice a6 N.length c6) (.slice a7 D.length c7) 59)
   go_wp2_with fail
   generalize w7.alloc (.cells #[.bool false,.slice a6 N.length c6,.slice a7 D.length c7] 59)=w8 at*
   have b9:=drew_ext w8
   have XE:=b9
   go_region_held3 (fun w'=>w'.cell? ⟨w7.heap.size,0,none⟩=some (.bool false)∧w'.cell? ⟨w7.heap.size,1,none⟩=some (.slice a6 N.length c6)∧w'.cell? ⟨w7.heap.size,2,none⟩=some (.slice a7 D.length c7)) (exact C8.out.ext XE)
    (first
     | (go_at_call 114;refine (cmp_any (O7.out.rd.ext (Ext.trans b8 (Ext.trans b9 b10))) O10.out.rd).mono ?_;rintro e w11 ⟨_,rfl,b11,rfl⟩;(first | have XE:=Ext.trans XE b11 | have XE:=Ext.trans (Ext.trans XE (Ext.alloc _ _)) b11))
     | (go_at_call 104;refine (one_any).mono ?_;rintro e w10 ⟨v10,rfl,b10,o10⟩;have O10:=Lib.hid o10;clear o10;(first | have XE:=Ext.trans XE b10 | have XE:=Ext.trans (Ext.trans XE (Ext.alloc _ _)) b10)))
   rw [HDV.out,show nv [1]=1 from val_one _ _]
   obtain ⟨k0,k1,k2⟩:=C8.out.ext (Ext.trans b9 (Ext.trans b10 b11))
   obtain ⟨_,_,_,_,_,_,f0,f1,f2⟩:=(R8.out.ext (Ext.trans b9 (Ext.trans b10 b11))).cells
   obtain ⟨_,_,_,j0,j1,j2,g0,g1,g2⟩:=(C1'.out.ext (Ext.trans b8 (Ext.trans b9 (Ext.trans b10 b11)))).cells
   have hne:w.heap.size≠w7.heap.size:=by have:=hs7b.out;omega
   have hne':w7.heap.size≠w.heap.size:=fun h=>hne h.symm
   by_cases hD:d=1
   ·rw [if_pos hD] at hG
    rw [hD,cmpN_eq]
    clear hD
    go_wp2_with fail
    refine bodyPost_ret (v:=.agg #[.bool false,.slice a6 N.length c6,.slice none 0 0]) (by simp [results,Tryz.results88,go_sem,j0,j1,j2]) rfl ?_
    have xf:=Below.setCell (Ext.trans b1 (Ext.trans b2 (Ext.trans b3 (Ext.trans b4 (Ext.trans b5 (Ext.trans b6 (Ext.trans b7 (Ext.trans b8 (Ext.trans b9 (Ext.trans b10 b11)))))))))) (p:=⟨w7.heap.size,2,none⟩) (by show w.heap.size≤w7.heap.size;have:=hs7b.out;omega) (.slice none 0 0)
    have x6:Ext w6 _:=Below.setCell (Ext.trans b7 (Ext.trans b8 (Ext.trans b9 (Ext.trans b10 b11)))) (p:=⟨w7.heap.size,2,none⟩) b7.size (.slice none 0 0)
    exact hR.out _ _ (Gives.mk (put3_below xf (Nat.le_refl _) _ _ _) ⟨_,_,agg_eq (hE.out false (by simp)),by rw [hF.out];exact ((O6.out.ext x6).put (by have:=hs5.out;omega) _ _ _).mono (by have:=hs5.out;omega),by rw [hG];exact ⟨OwnI.nil _ _ _ _,Fit.nil _⟩⟩)
   ·rw [if_neg hD] at hG
    have hc:(cmpN d 1 == 0)=false:=by
     rcases cmpN_cases d 1 with ⟨_,h⟩ | ⟨h,_⟩ | ⟨_,h⟩
     ·rw [h];rfl
     ·exact absurd h hD
     ·rw [h];rfl
    clear hD
    go_wp2_with fail
    refine bodyPost_ret (v:=.agg #[.bool false,.slice a6 N.length c6,.slice a7 D.length c7]) (by simp [results,Tryz.results88,go_sem,j0,j1,j2]) rfl ?_
    exact hR.out _ _ (Gives.mk (put3_below (Ext.trans b1 (Ext.trans b2 (Ext.trans b3 (Ext.trans b4 (Ext.trans b5 (Ext.trans b6 (Ext.trans b7 (Ext.trans b8 (Ext.trans b9 (Ext.trans b10 b11)))))))))) (Nat.le_refl _) _ _ _) ⟨_,_,agg_eq (hE.out false (by simp)),by rw [hF.out];exact ((O6.out.ext (Ext.trans b7 (Ext.trans b8 (Ext.trans b9 (Ext.trans b10 b11))))).put (by have:=hs5.out;omega) _ _ _).mono (by have:=hs5.out;omega),by rw [hG];exact ((O7.out.ext (Ext.trans b8 (Ext.trans b9 (Ext.trans b10 b11)))).put (by have:=hs5.out;have:=b6.size;omega) _ _ _).mono (by have:=hs5.out;have:=b6.size;omega)⟩)
  ·by_cases hN:0 < nv xa / Nat.gcd (nv xa) (nv xb)
   ·have eN:0 < N.length:=hNp.2 hN
    have b8:=Ext.alloc w7 (.cells #[.bool true,.slice a6 N.length c6,.slice a7 D.length c7] 59)
    have C8:=Lib.hid (Box3.new w7 (.bool true) (.slice a6 N.length c6) (.slice a7 D.length c7) 59)
    have R8:=Lib.hid (Room3.new w7 (.bool true) (.slice a6 N.length c6) (.slice a7 D.length c7) 59)
    go_wp2_with fail
    generalize w7.alloc (.cells #[.bool true,.slice a6 N.length c6,.slice a7 D.length c7] 59)=w8 at*
    have b9:=drew_ext w8
    have XE:=b9
    go_region_held3 (fun w'=>w'.cell? ⟨w7.heap.size,0,none⟩=some (.bool true)∧w'.cell? ⟨w7.heap.size,1,none⟩=some (.slice a6 N.length c6)∧w'.cell? ⟨w7.heap.size,2,none⟩=some (.slice a7 D.length c7)) (exact C8.out.ext XE)
     (first
      | (go_at_call 114;refine (cmp_any (O7.out.rd.ext (Ext.trans b8 (Ext.trans b9 b10))) O10.out.rd).mono ?_;rintro e w11 ⟨_,rfl,b11,rfl⟩;(first | have XE:=Ext.trans XE b11 | have XE:=Ext.trans (Ext.trans XE (Ext.alloc _ _)) b11))
      | (go_at_call 104;refine (one_any).mono ?_;rintro e w10 ⟨v10,rfl,b10,o10⟩;have O10:=Lib.hid o10;clear o10;(first | have XE:=Ext.trans XE b10 | have XE:=Ext.trans (Ext.trans XE (Ext.alloc _ _)) b10)))
    rw [HDV.out,show nv [1]=1 from val_one _ _]
    obtain ⟨k0,k1,k2⟩:=C8.out.ext (Ext.trans b9 (Ext.trans b10 b11))
    obtain ⟨_,_,_,_,_,_,f0,f1,f2⟩:=(R8.out.ext (Ext.trans b9 (Ext.trans b10 b11))).cells
    obtain ⟨_,_,_,j0,j1,j2,g0,g1,g2⟩:=(C1'.out.ext (Ext.trans b8 (Ext.trans b9 (Ext.trans b10 b11)))).cells
    have hne:w.heap.size≠w7.heap.size:=by have:=hs7b.out;omega
    have hne':w7.heap.size≠w.heap.size:=fun h=>hne h.symm
    by_cases hD:d=1
    ·rw [if_pos hD] at hG
     rw [hD,cmpN_eq]
     clear hD
     go_wp2_with fail
     refine bodyPost_ret (v:=.agg #[.bool true,.slice a6 N.length c6,.slice none 0 0]) (by simp [results,Tryz.results88,go_sem,j0,j1,j2]) rfl ?_
     have xf:=Below.setCell (Ext.trans b1 (Ext.trans b2 (Ext.trans b3 (Ext.trans b4 (Ext.trans b5 (Ext.trans b6 (Ext.trans b7 (Ext.trans b8 (Ext.trans b9 (Ext.trans b10 b11)))))))))) (p:=⟨w7.heap.size,2,none⟩) (by show w.heap.size≤w7.heap.size;have:=hs7b.out;omega) (.slice none 0 0)
     have x6:Ext w6 _:=Below.setCell (Ext.trans b7 (Ext.trans b8 (Ext.trans b9 (Ext.trans b10 b11)))) (p:=⟨w7.heap.size,2,none⟩) b7.size (.slice none 0 0)
     exact hR.out _ _ (Gives.mk (put3_below xf (Nat.le_refl _) _ _ _) ⟨_,_,agg_eq (hE.out true (by simp [hN])),by rw [hF.out];exact ((O6.out.ext x6).put (by have:=hs5.out;omega) _ _ _).mono (by have:=hs5.out;omega),by rw [hG];exact ⟨OwnI.nil _ _ _ _,Fit.nil _⟩⟩)
    ·rw [if_neg hD] at hG
     have hc:(cmpN d 1 == 0)=false:=by
      rcases cmpN_cases d 1 with ⟨_,h⟩ | ⟨h,_⟩ | ⟨_,h⟩
      ·rw [h];rfl
      ·exact absurd h hD
      ·rw [h];rfl
     clear hD
     go_wp2_with fail
     refine bodyPost_ret (v:=.agg #[.bool true,.slice a6 N.length c6,.slice a7 D.length c7]) (by simp [results,Tryz.results88,go_sem,j0,j1,j2]) rfl ?_
     exact hR.out _ _ (Gives.mk (put3_below (Ext.trans b1 (Ext.trans b2 (Ext.trans b3 (Ext.trans b4 (Ext.trans b5 (Ext.trans b6 (Ext.trans b7 (Ext.trans b8 (Ext.trans b9 (Ext.trans b10 b11)))))))))) (Nat.le_refl _) _ _ _) ⟨_,_,agg_eq (hE.out true (by simp [hN])),by rw [hF.out];exact ((O6.out.ext (Ext.trans b7 (Ext.trans b8 (Ext.trans b9 (Ext.trans b10 b11))))).put (by have:=hs5.out;omega) _ _ _).mono (by have:=hs5.out;omega),by rw [hG];exact ((O7.out.ext (Ext.trans b8 (Ext.trans b9 (Ext.trans b10 b11)))).put (by have:=hs5.out;have:=b6.size;omega) _ _ _).mono (by have:=hs5.out;have:=b6.size;omega)⟩)
   ·have eN:N.length≤0:=by omega
    have b8:=Ext.alloc w7 (.cells #[.bool false,.slice a6 N.length c6,.slice a7 D.length c7] 59)
    have C8:=Lib.hid (Box3.new w7 (.bool false) (.slice a6 N.length c6) (.slice a7 D.length c7) 59)
    have R8:=Lib.hid (Room3.new w7 (.bool false) (.slice a6 N.length c6) (.slice a7 D.length c7) 59)
    go_wp2_with fail
    generalize w7.alloc (.cells #[.bool false,.slice a6 N.length c6,.slice a7 D.length c7] 59)=w8 at*
    have b9:=drew_ext w8
    have XE:=b9
    go_region_held3 (fun w'=>w'.cell? ⟨w7.heap.size,0,none⟩=some (.bool false)∧w'.cell? ⟨w7.heap.size,1,none⟩=some (.slice a6 N.length c6)∧w'.cell? ⟨w7.heap.size,2,none⟩=some (.slice a7 D.length c7)) (exact C8.out.ext XE)
     (first
      | (go_at_call 114;refine (cmp_any (O7.out.rd.ext (Ext.trans b8 (Ext.trans b9 b10))) O10.out.rd).mono ?_;rintro e w11 ⟨_,rfl,b11,rfl⟩;(first | have XE:=Ext.trans XE b11 | have XE:=Ext.trans (Ext.trans XE (Ext.alloc _ _)) b11))
      | (go_at_call 104;refine (one_any).mono ?_;rintro e w10 ⟨v10,rfl,b10,o10⟩;have O10:=Lib.hid o10;clear o10;(first | have XE:=Ext.trans XE b10 | have XE:=Ext.trans (Ext.trans XE (Ext.alloc _ _)) b10)))
    rw [HDV.out,show nv [1]=1 from val_one _ _]
    obtain ⟨k0,k1,k2⟩:=C8.out.ext (Ext.trans b9 (Ext.trans b10 b11))
    obtain ⟨_,_,_,_,_,_,f0,f1,f2⟩:=(R8.out.ext (Ext.trans b9 (Ext.trans b10 b11))).cells
    obtain ⟨_,_,_,j0,j1,j2,g0,g1,g2⟩:=(C1'.out.ext (Ext.trans b8 (Ext.trans b9 (Ext.trans b10 b11)))).cells
    have hne:w.heap.size≠w7.heap.size:=by have:=hs7b.out;omega
    have hne':w7.heap.size≠w.heap.size:=fun h=>hne h.symm
    by_cases hD:d=1
    ·rw [if_pos hD] at hG
     rw [hD,cmpN_eq]
     clear hD
     go_wp2_with fail
     refine bodyPost_ret (v:=.agg #[.bool false,.slice a6 N.length c6,.slice none 0 0]) (by simp [results,Tryz.results88,go_sem,j0,j1,j2]) rfl ?_
     have xf:=Below.setCell (Ext.trans b1 (Ext.trans b2 (Ext.trans b3 (Ext.trans b4 (Ext.trans b5 (Ext.trans b6 (Ext.trans b7 (Ext.trans b8 (Ext.trans b9 (Ext.trans b10 b11)))))))))) (p:=⟨w7.heap.size,2,none⟩) (by show w.heap.size≤w7.heap.size;have:=hs7b.out;omega) (.slice none 0 0)
     have x6:Ext w6 _:=Below.setCell (Ext.trans b7 (Ext.trans b8 (Ext.trans b9 (Ext.trans b10 b11)))) (p:=⟨w7.heap.size,2,none⟩) b7.size (.slice none 0 0)
     exact hR.out _ _ (Gives.mk (put3_below xf (Nat.le_refl _) _ _ _) ⟨_,_,agg_eq (hE.out false (by simp [hN])),by rw [hF.out];exact ((O6.out.ext x6).put (by have:=hs5.out;omega) _ _ _).mono (by have:=hs5.out;omega),by rw [hG];exact ⟨OwnI.nil _ _ _ _,Fit.nil _⟩⟩)
    ·rw [if_neg hD] at hG
     have hc:(cmpN d 1 == 0)=false:=by
      rcases cmpN_cases d 1 with ⟨_,h⟩ | ⟨h,_⟩ | ⟨_,h⟩
      ·rw [h];rfl
      ·exact absurd h hD
      ·rw [h];rfl
     clear hD
     go_wp2_with fail
     refine bodyPost_ret (v:=.agg #[.bool false,.slice a6 N.length c6,.slice a7 D.length c7]) (by simp [results,Tryz.results88,go_sem,j0,j1,j2]) rfl ?_
     exact hR.out _ _ (Gives.mk (put3_below (Ext.trans b1 (Ext.trans b2 (Ext.trans b3 (Ext.trans b4 (Ext.trans b5 (Ext.trans b6 (Ext.trans b7 (Ext.trans b8 (Ext.trans b9 (Ext.trans b10 b11)))))))))) (Nat.le_refl _) _ _ _) ⟨_,_,agg_eq (hE.out false (by simp [hN])),by rw [hF.out];exact ((O6.out.ext (Ext.trans b7 (Ext.trans b8 (Ext.trans b9 (Ext.trans b10 b11))))).put (by have:=hs5.out;omega) _ _ _).mono (by have:=hs5.out;omega),by rw [hG];exact ((O7.out.ext (Ext.trans b8 (Ext.trans b9 (Ext.trans b10 b11)))).put (by have:=hs5.out;have:=b6.size;omega) _ _ _).mono (by have:=hs5.out;have:=b6.size;omega)⟩)

theorem made_to {w:World} {s:Bool} {va vb:Value} {xa xb:List Nat} {r:Rat} (ha:RdL w va xa) (hb:RdL w vb xb) (hna:xa.length≤1099511627) (hnb:xb.length≤1099511627) (h0:nv xb≠0) (hr:mkQ s (nv xa) (nv xb)=r):
  Calls Tryz.prog 88 #[.bool s,va,vb] w (Gives w fun v' w'=>OwnQ 119 w.heap.size w' v' r):=hr ▸ made_any ha hb hna hnb h0
open Go.RowKit Go.Att

theorem rsum2_any {w:World} {s t:Bool} {va vb:Value} {xa xb:List Nat} (ha:RdL w va xa) (hb:RdL w vb xb) (hna:xa.length≤1000000000) (hnb:xb.length≤1000000000):
  Calls Tryz.prog 111 #[.bool s,va,.bool t,vb] w (Gives w fun v' w'=>∃ o,v'=.tuple #[.bool (sumS s (nv xa) t (nv xb)),o]∧OwnL 119 w.heap.size w' o (limbs (sumN s (nv xa) t (nv xb)))):=by
 refine via fun R hR=>?_
 have HA:=Lib.hid ha
 have HB:=Lib.hid hb
 clear ha hb
 unfold sumS sumN at hR
 by_cases hst:s=t
 ·subst hst
  rw [if_pos rfl,if_pos rfl] at hR
  go_enter Tryz.func111,Tryz.ntmps111
  go_wp2_with fail
  refine (add_any HA.out HB.out (by omega) (by omega)).mono ?_
  rintro e w1 ⟨v1,rfl,b1,o1⟩
  have O1:=Lib.hid o1
  clear o1
  go_wp2_with fail
  exact hR.out _ _ (Gives.mk b1 ⟨_,rfl,O1.out⟩)
 ·rw [if_neg hst,if_neg hst] at hR
  have hs:(s == t)=false:=by cases s <;> cases t <;> simp at hst ⊢
  clear hst
  by_cases hab:nv xb≤nv xa
  ·rw [if_pos hab,if_pos hab] at hR
   go_enter Tryz.func111,Tryz.ntmps111
   go_wp2_with fail
   refine (sub_yes HA.out HB.out hab (by omega)).mono ?_
   rintro e w1 ⟨_,rfl,b1,v1,rfl,o1⟩
   have O1:=Lib.hid o1
   clear o1
   go_wp2_with fail
   exact hR.out _ _ (Gives.mk b1 ⟨_,rfl,O1.out⟩)
  ·rw [if_neg hab,if_neg hab] at hR
   have hba:nv xa < nv xb:=by omega
   clear hab
   go_enter Tryz.func111,Tryz.ntmps111
   go_wp2_with fail
   refine (sub_no HA.out HB.out hba).mono ?_
   rintro e w1 ⟨_,rfl,b1,rfl⟩
   go_wp2_with fail
   refine (sub_yes (HB.out.ext b1) (HA.out.ext b1) (by omega) (by omega)).mono ?_
   rintro e w2 ⟨_,rfl,b2,v2,rfl,o2⟩
   have O2:=Lib.hid o2
   clear o2
   go_wp2_with fail
   exact hR.out _ _ (Gives.mk (Ext.trans b1 b2) ⟨_,rfl,O2.out.mono b1.size⟩)

theorem rsum2_to {w:World} {s t:Bool} {va vb:Value} {xa xb:List Nat} (n m:Nat) (ha:RdL w va xa) (hb:RdL w vb xb) (hna:xa.length≤1000000000) (hnb:xb.length≤1000000000) (hn:nv xa=n) (hm:nv xb=m):
  Calls Tryz.prog 111 #[.bool s,va,.bool t,vb] w (Gives w fun v' w'=>∃ o,v'=.tuple #[.bool (sumS s n t m),o]∧OwnL 119 w.heap.size w' o (limbs (sumN s n t m))):=
 hn ▸ hm ▸ rsum2_any ha hb hna hnb
open Go.RowKit Go.Att

theorem radd_any {w:World} {va vb:Value} {p q:Rat} (hp:RdQ w va p) (hq:RdQ w vb q) (sp:Sz 10000000 p) (sq:Sz 10000000 q):
  Calls Tryz.prog 87 #[va,vb] w (Gives w fun v' w'=>OwnQ 119 w.heap.size w' v' (p+q)):=by
 refine via fun R hR=>?_
 generalize hr:p+q=r at hR
 have HRR:=Lib.hid hr
 clear hr
 obtain ⟨n,d,rfl,hn,hd⟩:=hp
 obtain ⟨m,c,rfl,hm,hc⟩:=hq
 have HN:=Lib.hid hn
 have HD:=Lib.hid hd
 have HM:=Lib.hid hm
 have HC:=Lib.hid hc
 have SP:=Lib.hid sp
 have SQ:=Lib.hid sq
 clear hn hd hm hc sp sq
 obtain ⟨w1,hw1,b1,c1,c2,c3,z1⟩:=box2R w (.bool (decide (p.num < 0))) n d (.bool (decide (q.num < 0))) m c (.bool false) (.slice none 0 0) (.slice none 0 0) 59 59 59
 have C1:=Lib.hid c1
 have C2:=Lib.hid c2
 have C3:=Lib.hid c3
 have HW:=Lib.hid hw1
 clear c1 c2 c3 hw1
 go_enter Tryz.func87,Tryz.ntmps87
 go_wp2_with fail
 rw [← HW.out]
 clear HW
 have b2:=drew_ext w1
 have XE:=b2
 go_region_held3 (fun w'=>(w'.cell? ⟨w.heap.size,0,none⟩=some (.bool (decide (p.num < 0)))∧w'.cell? ⟨w.heap.size,1,none⟩=some (n)∧w'.cell? ⟨w.heap.size,2,none⟩=some (d))∧(w'.cell? ⟨w.heap.size+1,0,none⟩=some (.bool (decide (q.num < 0)))∧w'.cell? ⟨w.heap.size+1,1,none⟩=some (m)∧w'.cell? ⟨w.heap.size+1,2,none⟩=some (c))) (exact ⟨C1.out.ext XE,C2.out.ext XE⟩)
  (first
   | (go_at_call 111;refine (rsum2_to (p.num.natAbs*q.den) (q.num.natAbs*p.den) (O4.out.rd.ext (Ext.trans b5 b6)) O6.out.rd (by rw [nv_limbs,nv_bel];have:=limbs_mul SP.out.1 SQ.out.2;omega) (by rw [nv_limbs,nv_bel];have:=limbs_mul SQ.out.1 SP.out.2;omega) (by rw [nv_limbs,nv_limbs,nv_bel]) (by rw [nv_limbs,nv_limbs,nv_bel])).mono ?_;rintro e w7 ⟨_,rfl,b7,v7,rfl,o7⟩;have O7:=Lib.hid o7;clear o7;(first | have XE:=Ext.trans XE b7 | have XE:=Ext.trans (Ext.trans XE (Ext.alloc _ _)) b7))
   | (go_at_call 112;refine (mul_any (HM.out.ext (Ext.trans b1 (Ext.trans b2 (Ext.trans b3 (Ext.trans b4 b5))))) O5.out (by have:=SQ.out.1;omega) (by have:=SP.out.2;have:=bel_len p.den;omega)).mono ?_;rintro e w6 ⟨v6,rfl,b6,o6⟩;have O6:=Lib.hid o6;clear o6;(first | have XE:=Ext.trans XE b6 | have XE:=Ext.trans (Ext.trans XE (Ext.alloc _ _)) b6))
   | (go_at_call 77;refine (below_any (HD.out.ext (Ext.trans b1 (Ext.trans b2 (Ext.trans b3 b4))))).mono ?_;rintro e w5 ⟨v5,rfl,b5,o5⟩;have O5:=Lib.hid o5;clear o5;(first | have XE:=Ext.trans XE b5 | have XE:=Ext.trans (Ext.trans XE (Ext.alloc _ _)) b5))
   | (go_at_call 112;refine (mul_any (HN.out.ext (Ext.trans b1 (Ext.trans b2 b3))) O3.out (by have:=SP.out.1;omega) (by have:=SQ.out.2;have:=bel_len q.den;omega)).mono ?_;rintro e w4 ⟨v4,rfl,b4,o4⟩;have O4:=Lib.hid o4;clear o4;(first | have XE:=Ext.trans XE b4 | have XE:=Ext.trans (Ext.trans XE (Ext.alloc _ _)) b4))
   | (go_at_call 77;refine (below_any (HC.out.ext (Ext.trans b1 b2))).mono ?_;rintro e w3 ⟨v3,rfl,b3,o3⟩;have O3:=Lib.hid o3;clear o3;(first | have XE:=Ext.trans XE b3 | have XE:=Ext.trans (Ext.trans XE (Ext.alloc _ _)) b3)))
 go_upto_region 2 with (fail)
 have D1:=Lib.hid (C1.out.ext (Ext.trans b2 (Ext.trans b3 (Ext.trans b4 (Ext.trans b5 (Ext.trans b6 b7))))))
 have D2:=Lib.hid (C2.out.ext (Ext.trans b2 (Ext.trans b3 (Ext.trans b4 (Ext.trans b5 (Ext.trans b6 b7))))))
 have D3:=Lib.hid (C3.out.ext (Ext.trans b2 (Ext.trans b3 (Ext.trans b4 (Ext.trans b5 (Ext.trans b6 b7))))))
 clear C1 C2 C3 O3 O4 O5 O6
 have hz:=Lib.hid (Below.size (Ext.trans b2 (Ext.trans b3 (Ext.trans b4 (Ext.trans b5 (Ext.trans b6 b7))))))
 have b8:=drew_ext w7
 have XE:=b8
 go_region_held3 (fun w'=>(w'.cell? ⟨w.heap.size,0,none⟩=some (.bool (decide (p.num < 0)))∧w'.cell? ⟨w.heap.size,1,none⟩=some (n)∧w'.cell? ⟨w.heap.size,2,none⟩=some (d))∧(w'.cell? ⟨w.heap.size+1,0,none⟩=some (.bool (decide (q.num < 0)))∧w'.cell? ⟨w.heap.size+1,1,none⟩=some (m)∧w'.cell? ⟨w.heap.size+1,2,none⟩=some (c))) (first | exact ⟨D1.out.ext XE,D2.out.ext XE⟩ | exact ⟨(D1.out.ext XE).put (by omega) _ _ _,(D2.out.ext XE).put (by omega) _ _ _⟩)
  (first
   | (go_at_call 88;refine (made_to (r:=r) (O7.out.rd.ext (Ext.trans b8 (Ext.trans b9 (Ext.trans b10 b11)))) O11.out.rd (by have:=limbs_mono (sumN_le (decide (p.num < 0)) (decide (q.num < 0)) (p.num.natAbs*q.den) (q.num.natAbs*p.den));have:=limbs_add (limbs_mul (Sz.le SP.out (Nat.le_refl _)).1 SQ.out.2) (limbs_mul SQ.out.1 SP.out.2);omega) (by rw [nv_bel,nv_bel];have:=limbs_mul SP.out.2 SQ.out.2;omega) (by rw [nv_limbs,nv_bel,nv_bel];exact Nat.mul_ne_zero p.den_nz q.den_nz) (by rw [nv_limbs,nv_limbs,nv_bel,nv_bel];exact (addQ p q).trans HRR.out)).mono ?_;rintro e w12 ⟨_,rfl,b12,n12,d12,rfl,on12,od12⟩;have ON12:=Lib.hid on12;have OD12:=Lib.hid od12;clear on12 od12;obtain ⟨an12,cn12,rfl,-,-,-,-⟩:=ON12.out.rd.1.shape;obtain ⟨ad12,cd12,rfl,-,-,-,-⟩:=OD12.out.rd.1.shape;(first | have XE:=Ext.trans XE b12 | have XE:=Ext.trans (Ext.trans XE (Ext.alloc _ _)) b12);obtain ⟨_,_,_,j0,j1,j2,g0,g1,g2⟩:=(D3.out.ext XE).cells)
   | (go_at_call 112;refine (mul_any (O9.out.ext b10) O10.out (by have:=SP.out.2;have:=bel_len p.den;omega) (by have:=SQ.out.2;have:=bel_len q.den;omega)).mono ?_;rintro e w11 ⟨v11,rfl,b11,o11⟩;have O11:=Lib.hid o11;clear o11;(first | have XE:=Ext.trans XE b11 | have XE:=Ext.trans (Ext.trans XE (Ext.alloc _ _)) b11))
   | (go_at_call 77;refine (below_any (HC.out.ext (Ext.trans b1 (Ext.trans b2 (Ext.trans b3 (Ext.trans b4 (Ext.trans b5 (Ext.trans b6 (Ext.trans b7 (Ext.trans b8 b9)))))))))).mono ?_;rintro e w10 ⟨v10,rfl,b10,o10⟩;have O10:=Lib.hid o10;clear o10;(first | have XE:=Ext.trans XE b10 | have XE:=Ext.trans (Ext.trans XE (Ext.alloc _ _)) b10))
   | (go_at_call 77;refine (below_any (HD.out.ext (Ext.trans b1 (Ext.trans b2 (Ext.trans b3 (Ext.trans b4 (Ext.trans b5 (Ext.trans b6 (Ext.trans b7 b8))))))))).mono ?_;rintro e w9 ⟨v9,rfl,b9,o9⟩;have O9:=Lib.hid o9;clear o9;(first | have XE:=Ext.trans XE b9 | have XE:=Ext.trans (Ext.trans XE (Ext.alloc _ _)) b9)))
 go_wp2_with fail
 refine bodyPost_ret (v:=.agg #[.bool (decide (r.num < 0)),.slice an12 (limbs r.num.natAbs).length cn12,.slice ad12 (dens r.den).length cd12]) (by simp [results,Tryz.results87,go_sem,j0,j1,j2]) rfl ?_
 have hz2:=Lib.hid (Below.size (Ext.trans b8 (Ext.trans b9 (Ext.trans b10 b11))))
 exact hR.out _ _ (Gives.mk (put3_below (Ext.trans b1 (Ext.trans b2 (Ext.trans b3 (Ext.trans b4 (Ext.trans b5 (Ext.trans b6 (Ext.trans b7 (Ext.trans b8 (Ext.trans b9 (Ext.trans b10 (Ext.trans b11 b12))))))))))) (by omega) _ _ _) ⟨_,_,rfl,(ON12.out.put (by have:=hz.out;have:=hz2.out;omega) _ _ _).mono (by have:=hz.out;have:=hz2.out;omega),(OD12.out.put (by have:=hz.out;have:=hz2.out;omega) _ _ _).mono (by have:=hz.out;have:=hz2.out;omega)⟩)
open Go.RowKit Go.Att

theorem rsign_any {w:World} {v:Value} {q:Rat} (hq:RdQ w v q):
  Calls Tryz.prog 69 #[v] w (Gives w fun v' _=>v'=.int .i64 q.num.sign):=by
 refine via fun R hR=>?_
 obtain ⟨n,d,rfl,hn,hd⟩:=hq
 obtain ⟨a,c,rfl,-,-,-,-⟩:=hn.1.shape
 clear hn hd
 rcases Int.lt_trichotomy q.num 0 with h | h | h
 ·have e:q.num.sign = -1:=Int.sign_eq_neg_one_of_neg h
  have hl:(((limbs q.num.natAbs).length:Int) == 0)=false:=beqF (by have:=limbs_len_pos.2 (show 0 < q.num.natAbs by omega);omega)
  have hs:decide (q.num < 0)=true:=decide_eq_true h
  rw [e] at hR
  rw [hs]
  go_enter Tryz.func69,Tryz.ntmps69
  go_wp2_with fail
  exact hR.out _ _ (Gives.mk (Ext.alloc _ _) rfl)
 ·have e:q.num.sign=0:=by rw [h];rfl
  have hl:(((limbs q.num.natAbs).length:Int) == 0)=true:=beqT (by have:=limbs_len_pos (x:=q.num.natAbs);omega)
  rw [e] at hR
  clear h e
  go_enter Tryz.func69,Tryz.ntmps69
  go_wp2_with fail
  exact hR.out _ _ (Gives.mk (Ext.alloc _ _) rfl)
 ·have e:q.num.sign=1:=Int.sign_eq_one_of_pos h
  have hl:(((limbs q.num.natAbs).length:Int) == 0)=false:=beqF (by have:=limbs_len_pos.2 (show 0 < q.num.natAbs by omega);omega)
  have hs:decide (q.num < 0)=false:=decide_eq_false (by omega)
  rw [e] at hR
  rw [hs]
  go_enter Tryz.func69,Tryz.ntmps69
  go_wp2_with fail
  exact hR.out _ _ (Gives.mk (Ext.alloc _ _) rfl)
open Go.RowKit Go.Att

theorem rint_any {w:World} {u:Int} (hu : -9223372036854775808≤u∧u≤9223372036854775807):
  Calls Tryz.prog 65 #[.int .i64 u] w (Gives w fun v' w'=>OwnQ 119 w.heap.size w' v' (u:Rat)):=by
 refine via fun R hR=>?_
 obtain ⟨w1,hw1,b1,c3,z1⟩:=boxR w (.bool false) (.slice none 0 0) (.slice none 0 0) 59
 have C3:=Lib.hid c3
 have HW:=Lib.hid hw1
 clear c3 hw1
 have hden:(u:Rat).den=1:=rfl
 have hnum:(u:Rat).num=u:=rfl
 generalize (u:Rat)=r at hR hden hnum
 have HDEN:Hid (dens r.den=[]):=by show _=_;rw [hden];rfl
 by_cases h0:u < 0
 ·obtain ⟨n,hn⟩:∃ n:Nat,u = -(n:Int):=⟨u.natAbs,by omega⟩
  have e:IntKind.u64.wrap (-IntKind.u64.wrap (-(n:Int)))=n:=by simp [IntKind.wrap,IntKind.bits,IntKind.signed];omega
  have HNUM:Hid (r.num.natAbs=n):=by show _=_;rw [hnum];omega
  have HSG:Hid (true=decide (r.num < 0)):=by show _=_;rw [hnum];simp [h0]
  have hn64:n≤9223372036854775808:=by omega
  clear hnum hden
  go_enter Tryz.func65,Tryz.ntmps65
  go_wp2_with fail
  rw [← HW.out]
  clear HW
  refine (word_any n (by omega)).mono ?_
  rintro e w2 ⟨v2,rfl,b2,o2⟩
  have O2:=Lib.hid o2
  clear o2
  obtain ⟨a2,c2,rfl,-,-,-,-⟩:=O2.out.rd.1.shape
  obtain ⟨_,_,_,j0,j1,j2,g0,g1,g2⟩:=(C3.out.ext b2).cells
  go_wp2_with fail
  refine bodyPost_ret (v:=.agg #[.bool true,.slice a2 (limbs n).length c2,.slice none 0 0]) (by simp [results,Tryz.results65,go_sem,j0,j1,j2]) rfl ?_
  exact hR.out _ _ (Gives.mk (put3_below (Ext.trans b1 b2) (Nat.le_refl _) _ _ _) ⟨_,_,agg_eq HSG.out,by rw [HNUM.out];exact (O2.out.put (by omega) _ _ _).mono (by omega),by rw [HDEN.out];exact ⟨OwnI.nil _ _ _ _,Fit.nil _⟩⟩)
 ·obtain ⟨n,rfl⟩:=Int.eq_ofNat_of_zero_le (show 0≤u by omega)
  have e:IntKind.u64.wrap (n:Int)=n:=by simp [IntKind.wrap,IntKind.bits,IntKind.signed];omega
  have HNUM:Hid (r.num.natAbs=n):=by show _=_;rw [hnum];omega
  have HSG:Hid (false=decide (r.num < 0)):=by show _=_;rw [hnum];simp
  have hn64:n≤9223372036854775808:=by omega
  clear hnum hden
  go_enter Tryz.func65,Tryz.ntmps65
  go_wp2_with fail
  rw [← HW.out]
  clear HW
  refine (word_any n (by omega)).mono ?_
  rintro e w2 ⟨v2,rfl,b2,o2⟩
  have O2:=Lib.hid o2
  clear o2
  obtain ⟨a2,c2,rfl,-,-,-,-⟩:=O2.out.rd.1.shape
  obtain ⟨_,_,_,j0,j1,j2,g0,g1,g2⟩:=(C3.out.ext b2).cells
  go_wp2_with fail
  refine bodyPost_ret (v:=.agg #[.bool false,.slice a2 (limbs n).length c2,.slice none 0 0]) (by simp [results,Tryz.results65,go_sem,j0,j1,j2]) rfl ?_
  exact hR.out _ _ (Gives.mk (put3_below (Ext.trans b1 b2) (Nat.le_refl _) _ _ _) ⟨_,_,agg_eq HSG.out,by rw [HNUM.out];exact (O2.out.put (by omega) _ _ _).mono (by omega),by rw [HDEN.out];exact ⟨OwnI.nil _ _ _ _,Fit.nil _⟩⟩)
open Go.RowKit Go.Att

theorem rmul_any {w:World} {va vb:Value} {p q:Rat} (hp:RdQ w va p) (hq:RdQ w vb q) (sp:Sz 10000000 p) (sq:Sz 10000000 q):
  Calls Tryz.prog 89 #[va,vb] w (Gives w fun v' w'=>OwnQ 119 w.heap.size w' v' (p*q)):=by
 refine via fun R hR=>?_
 obtain ⟨n,d,rfl,hn,hd⟩:=hp
 obtain ⟨m,c,rfl,hm,hc⟩:=hq
 have HN:=Lib.hid hn
 have HD:=Lib.hid hd
 have HM:=Lib.hid hm
 have HC:=Lib.hid hc
 have SP:=Lib.hid sp
 have SQ:=Lib.hid sq
 clear hn hd hm hc sp sq
 obtain ⟨w1,hw1,b1,c1,c2,c3,z1⟩:=box2R w (.bool (decide (p.num < 0))) n d (.bool (decide (q.num < 0))) m c (.bool false) (.slice none 0 0) (.slice none 0 0) 59 59 59
 have C1:=Lib.hid c1
 have C2:=Lib.hid c2
 have C3:=Lib.hid c3
 have HW:=Lib.hid hw1
 clear c1 c2 c3 hw1
 go_enter Tryz.func89,Tryz.ntmps89
 go_wp2_with fail
 rw [← HW.out]
 clear HW
 have b2:=drew_ext w1
 have XE:=b2
 go_region_held3 (fun w'=>(w'.cell? ⟨w.heap.size,0,none⟩=some (.bool (decide (p.num < 0)))∧w'.cell? ⟨w.heap.size,1,none⟩=some (n)∧w'.cell? ⟨w.heap.size,2,none⟩=some (d))∧(w'.cell? ⟨w.heap.size+1,0,none⟩=some (.bool (decide (q.num < 0)))∧w'.cell? ⟨w.heap.size+1,1,none⟩=some (m)∧w'.cell? ⟨w.heap.size+1,2,none⟩=some (c))) (first | exact ⟨C1.out.ext XE,C2.out.ext XE⟩ | exact ⟨(C1.out.ext XE).put (by omega) _ _ _,(C2.out.ext XE).put (by omega) _ _ _⟩)
  (first
   | (go_at_call 88;refine (made_to (r:=p*q) (O3.out.rd.ext (Ext.trans b4 (Ext.trans b5 b6))) O6.out.rd (by rw [nv_limbs,nv_limbs];have:=limbs_mul SP.out.1 SQ.out.1;omega) (by rw [nv_bel,nv_bel];have:=limbs_mul SP.out.2 SQ.out.2;omega) (by rw [nv_limbs,nv_bel,nv_bel];exact Nat.mul_ne_zero p.den_nz q.den_nz) (by rw [nv_limbs,nv_limbs,nv_limbs,nv_limbs,nv_bel,nv_bel];exact mulQ p q)).mono ?_;rintro e w7 ⟨_,rfl,b7,n7,d7,rfl,on7,od7⟩;have ON7:=Lib.hid on7;have OD7:=Lib.hid od7;clear on7 od7;obtain ⟨an7,cn7,rfl,-,-,-,-⟩:=ON7.out.rd.1.shape;obtain ⟨ad7,cd7,rfl,-,-,-,-⟩:=OD7.out.rd.1.shape;(first | have XE:=Ext.trans XE b7 | have XE:=Ext.trans (Ext.trans XE (Ext.alloc _ _)) b7);obtain ⟨_,_,_,j0,j1,j2,g0,g1,g2⟩:=(C3.out.ext XE).cells)
   | (go_at_call 112;refine (mul_any (O4.out.ext b5) O5.out (by have:=SP.out.2;have:=bel_len p.den;omega) (by have:=SQ.out.2;have:=bel_len q.den;omega)).mono ?_;rintro e w6 ⟨v6,rfl,b6,o6⟩;have O6:=Lib.hid o6;clear o6;(first | have XE:=Ext.trans XE b6 | have XE:=Ext.trans (Ext.trans XE (Ext.alloc _ _)) b6))
   | (go_at_call 77;refine (below_any (HC.out.ext (Ext.trans b1 (Ext.trans b2 (Ext.trans b3 b4))))).mono ?_;rintro e w5 ⟨v5,rfl,b5,o5⟩;have O5:=Lib.hid o5;clear o5;(first | have XE:=Ext.trans XE b5 | have XE:=Ext.trans (Ext.trans XE (Ext.alloc _ _)) b5))
   | (go_at_call 77;refine (below_any (HD.out.ext (Ext.trans b1 (Ext.trans b2 b3)))).mono ?_;rintro e w4 ⟨v4,rfl,b4,o4⟩;have O4:=Lib.hid o4;clear o4;(first | have XE:=Ext.trans XE b4 | have XE:=Ext.trans (Ext.trans XE (Ext.alloc _ _)) b4))
   | (go_at_call 112;refine (mul_any (HN.out.ext (Ext.trans b1 b2)) (HM.out.ext (Ext.trans b1 b2)) (by have:=SP.out.1;omega) (by have:=SQ.out.1;omega)).mono ?_;rintro e w3 ⟨v3,rfl,b3,o3⟩;have O3:=Lib.hid o3;clear o3;(first | have XE:=Ext.trans XE b3 | have XE:=Ext.trans (Ext.trans XE (Ext.alloc _ _)) b3)))
 go_wp2_with fail
 refine bodyPost_ret (v:=.agg #[.bool (decide ((p*q).num < 0)),.slice an7 (limbs (p*q).num.natAbs).length cn7,.slice ad7 (dens (p*q).den).length cd7]) (by simp [results,Tryz.results89,go_sem,j0,j1,j2]) rfl ?_
 have hz:=Lib.hid (Below.size (Ext.trans b2 (Ext.trans b3 (Ext.trans b4 (Ext.trans b5 b6)))))
 exact hR.out _ _ (Gives.mk (put3_below (Ext.trans b1 (Ext.trans b2 (Ext.trans b3 (Ext.trans b4 (Ext.trans b5 (Ext.trans b6 b7)))))) (by omega) _ _ _) ⟨_,_,rfl,(ON7.out.put (by have:=hz.out;omega) _ _ _).mono (by have:=hz.out;omega),(OD7.out.put (by have:=hz.out;omega) _ _ _).mono (by have:=hz.out;omega)⟩)
open Go.RowKit Go.Att

theorem rinv_any {w:World} {v:Value} {q:Rat} (hq:RdQ w v q) (sq:Sz 100000000 q) (h0:q.num≠0):
  Calls Tryz.prog 51 #[v] w (Gives w fun v' w'=>∃ o,v'=.tuple #[o,.bool true]∧OwnQ 119 w.heap.size w' o q⁻¹):=by
 refine via fun R hR=>?_
 generalize hr:q⁻¹=r at hR
 have HRR:=Lib.hid hr
 clear hr
 obtain ⟨n,d,rfl,hn,hd⟩:=hq
 have HN:=Lib.hid hn
 have HD:=Lib.hid hd
 have SQ:=Lib.hid sq
 have H0:=Lib.hid h0
 obtain ⟨a,c,rfl,-,-,-,-⟩:=hn.1.shape
 have hl:(((limbs q.num.natAbs).length:Int) == 0)=false:=beqF (by have:=limbs_len_pos.2 (show 0 < q.num.natAbs by omega);omega)
 clear hn hd sq h0
 obtain ⟨w1,hw1,b1,c1,_,c3,z1⟩:=box1R w (.bool (decide (q.num < 0))) (.slice a (limbs q.num.natAbs).length c) d (.bool false) (.slice none 0 0) (.slice none 0 0) 59 59
 have C1:=Lib.hid c1
 have C3:=Lib.hid c3
 have HW:=Lib.hid hw1
 clear c1 c3 hw1
 go_enter Tryz.func51,Tryz.ntmps51
 go_upto_region 3 with (fail)
 rw [← HW.out]
 clear HW
 have b2:=drew_ext w1
 have XE:=b2
 go_region_held3 (fun w'=>w'.cell? ⟨w.heap.size,0,none⟩=some (.bool (decide (q.num < 0)))∧w'.cell? ⟨w.heap.size,1,none⟩=some (.slice a (limbs q.num.natAbs).length c)∧w'.cell? ⟨w.heap.size,2,none⟩=some (d)) (first | exact C1.out.ext XE | exact (C1.out.ext XE).put (by omega) _ _ _)
  (first
   | (go_at_call 88;refine (made_to (r:=r) O3.out (HN.out.ext (Ext.trans b1 (Ext.trans b2 b3))) (by have:=SQ.out.2;have:=bel_len q.den;omega) (by have:=SQ.out.1;omega) (by rw [nv_limbs];have:=H0.out;omega) (by rw [nv_limbs,nv_bel];exact (invQ q H0.out).trans HRR.out)).mono ?_;rintro e w4 ⟨_,rfl,b4,n4,d4,rfl,on4,od4⟩;have ON4:=Lib.hid on4;have OD4:=Lib.hid od4;clear on4 od4;obtain ⟨an4,cn4,rfl,-,-,-,-⟩:=ON4.out.rd.1.shape;obtain ⟨ad4,cd4,rfl,-,-,-,-⟩:=OD4.out.rd.1.shape;(first | have XE:=Ext.trans XE b4 | have XE:=Ext.trans (Ext.trans XE (Ext.alloc _ _)) b4);obtain ⟨_,_,_,j0,j1,j2,g0,g1,g2⟩:=(C3.out.ext XE).cells)
   | (go_at_call 77;refine (below_any (HD.out.ext (Ext.trans b1 b2))).mono ?_;rintro e w3 ⟨v3,rfl,b3,o3⟩;have O3:=Lib.hid o3;clear o3;(first | have XE:=Ext.trans XE b3 | have XE:=Ext.trans (Ext.trans XE (Ext.alloc _ _)) b3)))
 go_wp2_with fail
 refine bodyPost_ret (v:=.tuple #[.agg #[.bool (decide (r.num < 0)),.slice an4 (limbs r.num.natAbs).length cn4,.slice ad4 (dens r.den).length cd4],.bool true]) (by simp [results,Tryz.results51,go_sem,j0,j1,j2]) rfl ?_
 have hz:=Lib.hid (Below.size (Ext.trans b2 b3))
 exact hR.out _ _ (Gives.mk (put3_below (Ext.trans b1 (Ext.trans b2 (Ext.trans b3 b4))) (by omega) _ _ _) ⟨_,rfl,_,_,rfl,(ON4.out.put (by have:=hz.out;omega) _ _ _).mono (by have:=hz.out;omega),(OD4.out.put (by have:=hz.out;omega) _ _ _).mono (by have:=hz.out;omega)⟩)
open Go.RowKit Go.Att

open Go.RowKit Go.Att

theorem Sz.int (u:Int) (hu : -9223372036854775808≤u∧u≤9223372036854775807):Sz 2 (u:Rat):=
 ⟨(limbs_len _ _).2 (by rw [Rat.num_intCast];have:W32 ^ 2=18446744073709551616:=rfl;omega),Nat.le_trans limbs_one_len (by decide)⟩

open Go.RowKit Go.Att

theorem parts_any {w:World} {v:Value} {q:Rat} (hq:RdQ w v q) (h1:(limbs q.num.natAbs).length≤1000000) (h2:(limbs q.den).length≤1000000):
  Calls Tryz.prog 44 #[v] w (Gives w fun v' w'=>∃ n d,v'=.tuple #[.bool (decide (q.num < 0)),n,d]∧OwnL 119 w.heap.size w' n (limbs q.num.natAbs)∧OwnL 119 w.heap.size w' d (limbs q.den)):=by
 refine via fun R hR=>?_
 obtain ⟨n,d,rfl,hn,hd⟩:=hq
 have HN:=Lib.hid hn
 have HD:=Lib.hid hd
 clear hn hd
 have b1:=Ext.alloc w (.cells #[.bool (decide (q.num < 0)),n,d] 59)
 have C1:=Lib.hid (Box3.new w (.bool (decide (q.num < 0))) n d 59)
 go_enter Tryz.func44,Tryz.ntmps44
 go_wp2_with fail
 generalize w.alloc (.cells #[.bool (decide (q.num < 0)),n,d] 59)=w1 at*
 have s1:=b1.size
 have b2:=drew_ext w1
 have XE:=b2
 go_region_held3 (fun w'=>w'.cell? ⟨w.heap.size,0,none⟩=some (.bool (decide (q.num < 0)))∧w'.cell? ⟨w.heap.size,1,none⟩=some (n)∧w'.cell? ⟨w.heap.size,2,none⟩=some (d)) (exact C1.out.ext XE)
  (first
   | (go_at_call 76;refine (norm_any O4.out (by have:=bel_len q.den;omega)).mono ?_;rintro e w5 ⟨v5,rfl,b5,o5⟩;have O5:=Lib.hid o5;clear o5;(first | have XE:=Ext.trans XE b5 | have XE:=Ext.trans (Ext.trans XE (Ext.alloc _ _)) b5))
   | (go_at_call 77;refine (below_any (HD.out.ext (Ext.trans b1 (Ext.trans b2 b3)))).mono ?_;rintro e w4 ⟨v4,rfl,b4,o4⟩;have O4:=Lib.hid o4;clear o4;(first | have XE:=Ext.trans XE b4 | have XE:=Ext.trans (Ext.trans XE (Ext.alloc _ _)) b4))
   | (go_at_call 76;refine (norm_any (HN.out.ext (Ext.trans b1 b2)) (by omega)).mono ?_;rintro e w3 ⟨v3,rfl,b3,o3⟩;have O3:=Lib.hid o3;clear o3;(first | have XE:=Ext.trans XE b3 | have XE:=Ext.trans (Ext.trans XE (Ext.alloc _ _)) b3)))
 rw [nv_limbs] at O3
 rw [nv_bel] at O5
 go_wp2
 go_ret3
 exact hR.out _ _ (Gives.mk (Ext.trans b1 (Ext.trans b2 (Ext.trans b3 (Ext.trans b4 b5)))) ⟨_,_,rfl,(O3.out.ext (Ext.trans b4 b5)).mono s1,O5.out.mono (Nat.le_trans s1 (Below.size (Ext.trans b2 (Ext.trans b3 b4))))⟩)
open Go.RowKit Go.Att

theorem make_any {w:World} {s:Bool} {va vb:Value} {xa xb:List Nat} {r:Rat} (ha:RdL w va xa) (hb:RdL w vb xb) (hna:xa.length≤1000000000) (hnb:xb.length≤1000000000) (h0:nv xb≠0) (hr:mkQ s (nv xa) (nv xb)=r):
  Calls Tryz.prog 63 #[.bool s,va,vb] w (Gives w fun v' w'=>∃ o,v'=.tuple #[o,.bool true]∧OwnQ 119 w.heap.size w' o r):=by
 refine via fun R hR=>?_
 have HA:=Lib.hid ha
 have HB:=Lib.hid hb
 have H0:=Lib.hid h0
 have HRR:=Lib.hid hr
 obtain ⟨w1,hw1,b1,c3,z1⟩:=boxR w (.bool false) (.slice none 0 0) (.slice none 0 0) 59
 have C3:=Lib.hid c3
 have HW:=Lib.hid hw1
 have e0:((blen (nv xb):Int) == 0)=false:=beqF (by have:=blen_pos h0;omega)
 clear c3 hw1 ha hb h0 hr
 go_enter Tryz.func63,Tryz.ntmps63
 go_wp2_with fail
 rw [← HW.out]
 clear HW
 go_wp2_with fail
 refine (bits_any (HB.out.ext b1) (by omega)).mono ?_
 rintro e w2 ⟨_,rfl,b2,rfl⟩
 go_wp2_with fail
 refine (made_to (HA.out.ext (Ext.trans b1 b2)) (HB.out.ext (Ext.trans b1 b2)) (by omega) (by omega) H0.out HRR.out).mono ?_
 rintro e w3 ⟨_,rfl,b3,n3,d3,rfl,on3,od3⟩
 have ON3:=Lib.hid on3
 have OD3:=Lib.hid od3
 clear on3 od3
 obtain ⟨an3,cn3,rfl,-,-,-,-⟩:=ON3.out.rd.1.shape
 obtain ⟨ad3,cd3,rfl,-,-,-,-⟩:=OD3.out.rd.1.shape
 obtain ⟨_,_,_,j0,j1,j2,g0,g1,g2⟩:=(C3.out.ext (Ext.trans b2 b3)).cells
 have hz:=Lib.hid b2.size
 go_wp2_with fail
 refine bodyPost_ret (v:=.tuple #[.agg #[.bool (decide (r.num < 0)),.slice an3 (limbs r.num.natAbs).length cn3,.slice ad3 (dens r.den).length cd3],.bool true]) (by simp [results,Tryz.results63,go_sem,j0,j1,j2]) rfl ?_
 exact hR.out _ _ (Gives.mk (put3_below (Ext.trans b1 (Ext.trans b2 b3)) (Nat.le_refl _) _ _ _) ⟨_,rfl,_,_,rfl,(ON3.out.put (by have:=hz.out;omega) _ _ _).mono (by have:=hz.out;omega),(OD3.out.put (by have:=hz.out;omega) _ _ _).mono (by have:=hz.out;omega)⟩)
open Go.RowKit Go.Att

theorem rneg_val {w:World} {x n d:Value} {q:Rat} (hq:RdQ w (.agg #[x,n,d]) q):
  Calls Tryz.prog 116 #[.agg #[x,n,d]] w (Gives w fun v' _=>v'=.agg #[.bool (decide ((-q).num < 0)),n,d]):=by
 refine via fun R hR=>?_
 have hs:=neg_sign q
 have ha:(-q).num.natAbs=q.num.natAbs:=by rw [Rat.neg_num,Int.natAbs_neg]
 have hb:(-q).den=q.den:=rfl
 generalize -q=r at*
 obtain ⟨n',d',he,hn,hd⟩:=hq
 obtain ⟨rfl,rfl,rfl⟩:x=.bool (decide (q.num < 0))∧n=n'∧d=d':=by simpa using he
 have HN:=Lib.hid hn
 have HD:=Lib.hid hd
 have HS:=Lib.hid hs
 clear he
 obtain ⟨a,c,rfl,-,-,-,-⟩:=HN.out.1.shape
 obtain ⟨a',c',rfl,-,-,-,-⟩:=HD.out.1.shape
 have hp:=limbs_len_pos (x:=q.num.natAbs)
 clear hn hd hs ha hb
 cases hsg:decide (q.num < 0)
 ·by_cases h0:0 < q.num.natAbs
  ·have eN:0 < (limbs q.num.natAbs).length:=hp.2 h0
   have HT:Hid (true=decide (r.num < 0)):=by show _=_;rw [← HS.out,hsg];simp [h0]
   clear HS hsg
   go_enter Tryz.func116,Tryz.ntmps116
   go_wp2_with fail
   refine bodyPost_ret (v:=.agg #[.bool true,.slice a (limbs q.num.natAbs).length c,.slice a' (dens q.den).length c']) (by simp [results,Tryz.results116,go_sem]) rfl ?_
   have xx:Ext w ((w.alloc (.cells #[.bool true,.slice a (limbs q.num.natAbs).length c,.slice a' (dens q.den).length c'] 59)).alloc (.cells #[.bool true,.slice a (limbs q.num.natAbs).length c,.slice a' (dens q.den).length c'] 59)):=(Ext.alloc _ _).trans (Ext.alloc _ _)
   exact hR.out _ _ (Gives.mk xx (agg_eq HT.out))
  ·have eN:(limbs q.num.natAbs).length≤0:=by omega
   have HT:Hid (false=decide (r.num < 0)):=by show _=_;rw [← HS.out,hsg];simp [h0]
   clear HS hsg
   go_enter Tryz.func116,Tryz.ntmps116
   go_wp2_with fail
   refine bodyPost_ret (v:=.agg #[.bool false,.slice a (limbs q.num.natAbs).length c,.slice a' (dens q.den).length c']) (by simp [results,Tryz.results116,go_sem]) rfl ?_
   have xx:Ext w ((w.alloc (.cells #[.bool false,.slice a (limbs q.num.natAbs).length c,.slice a' (dens q.den).length c'] 59)).alloc (.cells #[.bool false,.slice a (limbs q.num.natAbs).length c,.slice a' (dens q.den).length c'] 59)):=(Ext.alloc _ _).trans (Ext.alloc _ _)
   exact hR.out _ _ (Gives.mk xx (agg_eq HT.out))
 ·have eN:True:=trivial
  have HT:Hid (false=decide (r.num < 0)):=by show _=_;rw [← HS.out,hsg];simp
  clear HS hsg
  go_enter Tryz.func116,Tryz.ntmps116
  go_wp2_with fail
  refine bodyPost_ret (v:=.agg #[.bool false,.slice a (limbs q.num.natAbs).length c,.slice a' (dens q.den).length c']) (by simp [results,Tryz.results116,go_sem]) rfl ?_
  have xx:Ext w ((w.alloc (.cells #[.bool false,.slice a (limbs q.num.natAbs).length c,.slice a' (dens q.den).length c'] 59)).alloc (.cells #[.bool false,.slice a (limbs q.num.natAbs).length c,.slice a' (dens q.den).length c'] 59)):=(Ext.alloc _ _).trans (Ext.alloc _ _)
  exact hR.out _ _ (Gives.mk xx (agg_eq HT.out))
theorem rneg_any {w:World} {v:Value} {q:Rat} (hq:RdQ w v q):
  Calls Tryz.prog 116 #[v] w (Gives w fun v' w'=>RdQ w' v' (-q)):=by
 obtain ⟨n,d,rfl,hn,hd⟩:=hq
 refine (rneg_val ⟨n,d,rfl,hn,hd⟩).mono ?_
 rintro e w' ⟨_,rfl,b,rfl⟩
 exact Gives.mk b ⟨n,d,rfl,by rw [Rat.neg_num,Int.natAbs_neg];exact hn.ext b,hd.ext b⟩
open Go.RowKit Go.Att

theorem rsub_any {w:World} {va vb:Value} {p q:Rat} (hp:RdQ w va p) (hq:RdQ w vb q) (sp:Sz 10000000 p) (sq:Sz 10000000 q):
  Calls Tryz.prog 90 #[va,vb] w (Gives w fun v' w'=>OwnQ 119 w.heap.size w' v' (p - q)):=by
 refine via fun R hR=>?_
 rw [Rat.sub_eq_add_neg] at hR
 generalize hr:p + -q=r at hR
 have HRR:=Lib.hid hr
 have HP:=Lib.hid hp
 have HQ:=Lib.hid hq
 clear hr
 obtain ⟨n,d,rfl,hn,hd⟩:=hp
 obtain ⟨m,c,rfl,hm,hc⟩:=hq
 have SP:=Lib.hid sp
 have SQ:=Lib.hid sq
 clear hn hd hm hc sp sq
 obtain ⟨w1,hw1,b1,c1,c2,c3,z1⟩:=box2R w (.bool (decide (p.num < 0))) n d (.bool (decide (q.num < 0))) m c (.bool false) (.slice none 0 0) (.slice none 0 0) 59 59 59
 have C1:=Lib.hid c1
 have C2:=Lib.hid c2
 have C3:=Lib.hid c3
 have HW:=Lib.hid hw1
 clear c1 c2 c3 hw1
 go_enter Tryz.func90,Tryz.ntmps90
 go_wp2_with fail
 rw [← HW.out]
 clear HW
 have b2:=drew_ext w1
 have XE:=b2
 go_region_held3 (fun w'=>(w'.cell? ⟨w.heap.size,0,none⟩=some (.bool (decide (p.num < 0)))∧w'.cell? ⟨w.heap.size,1,none⟩=some (n)∧w'.cell? ⟨w.heap.size,2,none⟩=some (d))∧(w'.cell? ⟨w.heap.size+1,0,none⟩=some (.bool (decide (q.num < 0)))∧w'.cell? ⟨w.heap.size+1,1,none⟩=some (m)∧w'.cell? ⟨w.heap.size+1,2,none⟩=some (c))) (first | exact ⟨C1.out.ext XE,C2.out.ext XE⟩ | exact ⟨(C1.out.ext XE).put (by omega) _ _ _,(C2.out.ext XE).put (by omega) _ _ _⟩)
  (first
   | (go_at_call 87;refine (HRR.out ▸ radd_any (HP.out.ext (Ext.trans b1 (Ext.trans b2 b3))) O3.out SP.out SQ.out.neg).mono ?_;rintro e w4 ⟨_,rfl,b4,n4,d4,rfl,on4,od4⟩;have ON4:=Lib.hid on4;have OD4:=Lib.hid od4;clear on4 od4;obtain ⟨an4,cn4,rfl,-,-,-,-⟩:=ON4.out.rd.1.shape;obtain ⟨ad4,cd4,rfl,-,-,-,-⟩:=OD4.out.rd.1.shape;(first | have XE:=Ext.trans XE b4 | have XE:=Ext.trans (Ext.trans XE (Ext.alloc _ _)) b4);obtain ⟨_,_,_,j0,j1,j2,g0,g1,g2⟩:=(C3.out.ext XE).cells)
   | (go_at_call 116;refine (rneg_any (HQ.out.ext (Ext.trans b1 b2))).mono ?_;rintro e w3 ⟨v3,rfl,b3,o3⟩;have O3:=Lib.hid o3;clear o3;(first | have XE:=Ext.trans XE b3 | have XE:=Ext.trans (Ext.trans XE (Ext.alloc _ _)) b3)))
 go_wp2_with fail
 refine bodyPost_ret (v:=.agg #[.bool (decide (r.num < 0)),.slice an4 (limbs r.num.natAbs).length cn4,.slice ad4 (dens r.den).length cd4]) (by simp [results,Tryz.results90,go_sem,j0,j1,j2]) rfl ?_
 have hz:=Lib.hid (Below.size (Ext.trans b2 b3))
 exact hR.out _ _ (Gives.mk (put3_below (Ext.trans b1 (Ext.trans b2 (Ext.trans b3 b4))) (by omega) _ _ _) ⟨_,_,rfl,(ON4.out.put (by have:=hz.out;omega) _ _ _).mono (by have:=hz.out;omega),(OD4.out.put (by have:=hz.out;omega) _ _ _).mono (by have:=hz.out;omega)⟩)
open Go.RowKit Go.Att

theorem rcmp_any {w:World} {va vb:Value} {p q:Rat} (hp:RdQ w va p) (hq:RdQ w vb q) (sp:Sz 10000000 p) (sq:Sz 10000000 q):
  Calls Tryz.prog 54 #[va,vb] w (Gives w fun v' _=>v'=.int .i64 (p - q).num.sign):=by
 refine via fun R hR=>?_
 have HP:=Lib.hid hp
 have HQ:=Lib.hid hq
 obtain ⟨n,d,rfl,hn,hd⟩:=hp
 obtain ⟨m,c,rfl,hm,hc⟩:=hq
 have SP:=Lib.hid sp
 have SQ:=Lib.hid sq
 clear hn hd hm hc sp sq
 obtain ⟨w1,hw1,b1,_,_,_⟩:=box2 w (.bool (decide (p.num < 0))) n d (.bool (decide (q.num < 0))) m c 59 59
 have HW:=Lib.hid hw1
 clear hw1
 go_enter Tryz.func54,Tryz.ntmps54
 go_wp2_with fail
 rw [← HW.out]
 clear HW
 go_wp2_with fail
 refine (rsub_any (HP.out.ext b1) (HQ.out.ext b1) SP.out SQ.out).mono ?_
 rintro e w2 ⟨v2,rfl,b2,o2⟩
 have O2:=Lib.hid o2
 clear o2
 go_wp2_with fail
 refine (rsign_any O2.out.rd).mono ?_
 rintro e w3 ⟨_,rfl,b3,rfl⟩
 go_wp2_with fail
 exact hR.out _ _ (Gives.mk (Ext.trans b1 (Ext.trans b2 b3)) rfl)
open Go.RowKit Go.Att

end Go.Proofs.YtdooldpgnjmpfaaGreatDoor
