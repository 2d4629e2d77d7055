/- A group of texts: PBoth05, PTold, PList17, BuildS, LastT -/
import Derived.Test.YtmlhccajicmpfaaGreatSq
import Derived.Test.YtmlhccajicmpfaaGreatPartAJ
import Derived.Test.YtmlhccajicmpfaaGreatPartBA
import Derived.Test.YtmlhccajicmpfaaGreatPartAH
import Derived.Test.YtmlhccajicmpfaaGreatPartAC
import Derived.Great.BuildSlice
set_option maxHeartbeats 40000000
set_option maxRecDepth 100000
set_option linter.unusedSimpArgs false
namespace Go.Proofs.YtmlhccajicmpfaaGreat
open Go.RowKit Go.Att

theorem both_any {w:World} {v:Value} {s:Bool} {xs ys:List Nat} (hv:RdN w v s xs ys) (hlx:xs.length≤1000000000) (hly:ys.length≤1000000000):
  Calls Tryz.prog 55 #[v] w (Gives w fun v' w'=>∃ o1 o2,v'=.tuple #[o1,o2]∧OwnQ 156 w.heap.size w' o1 (qOf s xs ys)∧OwnP 4 w.heap.size w' o2 (qOf s xs ys)):=by
 refine via fun R hR=>?_
 generalize hr:qOf s xs ys=r at hR
 rw [qOf_eq] at hr
 have HRR:=qH hr
 obtain ⟨a,b,rfl,ha,hb⟩:=hv
 have HA:=qH ha
 have HB:=qH hb
 clear hr ha hb
 obtain ⟨w1,hw1,b1,c1,c2,c3,z1⟩:=box1RR w (.bool s) a b (.bool false) (.slice none 0 0) (.slice none 0 0) (.bool false) (.slice none 0 0) (.slice none 0 0) 102 38 153
 have C1:=qH c1
 have C2:=qH c2
 have C3:=qH c3
 have HW:=qH hw1
 clear c1 c2 c3 hw1
 go_enter Tryz.func55,Tryz.ntmps55
 go_wp2_with fail
 rw [← HW.out]
 clear HW
 have b2:=drew_ext w1
 have XE:=b2
 go_region_held3 (fun w'=>w'.cell? ⟨w.heap.size,0,none⟩=some (.bool s)∧w'.cell? ⟨w.heap.size,1,none⟩=some (a)∧w'.cell? ⟨w.heap.size,2,none⟩=some (b)) (exact C1.out.ext XE)
  (first
   | (go_at_call 86;refine (few5_any (HB.out.ext (eT b1 (eT b2 b3))) oM).mono ?_;rintro e w4 ⟨v4,rfl,b4,o4⟩;have O4:=qH o4;clear o4;(first | have XE:=eT XE b4 | have XE:=eT (eT XE (Ext.alloc _ _)) b4))
   | (go_at_call 86;refine (few5_any (HA.out.ext (eT b1 b2)) oM).mono ?_;rintro e w3 ⟨v3,rfl,b3,o3⟩;have O3:=qH o3;clear o3;(first | have XE:=eT XE b3 | have XE:=eT (eT XE (Ext.alloc _ _)) b3)))
 have hl4:(ys.take 8).length≤8:=by rw [List.length_take];omega
 have hl3:(xs.take 8).length≤8:=by rw [List.length_take];omega
 go_wp2_with fail
 refine (Of_any O4.out.rd oM).mono ?_
 rintro e w5 ⟨v5,rfl,b5,o5⟩
 have O5:=qH o5
 clear o5
 obtain ⟨a5,c5,rfl,-,-,-,-⟩:=O5.out.rd.shape
 go_upto_if 17 with (fail)
 go_cut [5] (fun s5 wx=>Ext w5 wx∧Hid (∃ zs,RdL wx s5 zs∧nv zs=denOf ys∧zs.length≤8))
 case first=>
  by_cases h0:nv (ys.take 8)=0
  ·have hl:(((bitsOf (nv (ys.take 8))).length:Int) == 0)=true:=beqT (by rw [h0,bitsOf_zero];rfl)
   have he:denOf ys=1:=by unfold denOf;rw [if_pos h0]
   clear h0
   go_wp2_with fail
   go_meet
   exact ⟨Ext.alloc _ _,[1],lit1_rd _ _ dC,by rw [he];exact val_one _ _,by decide⟩
  have hl:(((bitsOf (nv (ys.take 8))).length:Int) == 0)=false:=beqF (by have:=bits_len_pos.2 (show 0 < nv (ys.take 8) by omega);omega)
  have he:denOf ys=nv (ys.take 8):=by unfold denOf;rw [if_neg h0]
  clear h0
  go_wp2_with fail
  go_meet
  exact ⟨Ext.refl _,_,O4.out.rd.ext b5,he.symm,hl4⟩
 case rest=>
  obtain ⟨b6,hh⟩:=hcut
  obtain ⟨zs,hz,hd,hlz⟩:=hh.out
  have HZ:=qH hz
  have HD:=qH hd
  clear hh hz hd O5
  have D1:=qH (C1.out.ext (eT b2 (eT b3 (eT b4 (eT b5 b6)))))
  have D2:=qH (C2.out.ext (eT b2 (eT b3 (eT b4 (eT b5 b6)))))
  have D3:=qH (C3.out.ext (eT b2 (eT b3 (eT b4 (eT b5 b6)))))
  have hs6:=qH (Below.size (eT b2 (eT b3 (eT b4 (eT b5 b6)))))
  have hsq:Hid (w.heap.size < wc.heap.size):=by have:=hs6.out;show _ < _;omega
  clear C1 C2 C3
  generalize wc=w6 at*
  go_upto_region 4 with (fail)
  go_cut [6,7] (fun s6 s7 wx=>s7=.bool true∧Ext w6 wx∧∃ B an cn ad cd,s6=.pointer (some ⟨B,0,none⟩)∧Hid (w6.heap.size≤B)∧Hid (Box3 wx B (.bool (decide (r.num < 0))) (.slice an (limbs r.num.natAbs).length cn) (.slice ad (dens r.den).length cd))∧Hid (OwnL 156 w6.heap.size wx (.slice an (limbs r.num.natAbs).length cn) (limbs r.num.natAbs))∧Hid (OwnL 156 w6.heap.size wx (.slice ad (dens r.den).length cd) (dens r.den)))
  case first=>
   have b7:=drew_ext w6
   refine wp_region_noPanic ?_
   refine wp_region_held_drew (S:=fun w'=>w'.cell? ⟨w.heap.size,0,none⟩=some (.bool s)∧w'.cell? ⟨w.heap.size,1,none⟩=some (a)∧w'.cell? ⟨w.heap.size,2,none⟩=some (b)) kR (D1.out.ext xX) (fun hHeld=>?_)
   refine tkH 0 hHeld ?_
   simp only [jP,jJ]
   refine tkH 1 hHeld ?_
   simp only [jP,jJ]
   refine tkH 2 hHeld ?_
   simp only [jP,jJ]
   refine tkH 4 hHeld ?_
   simp only [jP,jJ]
   refine wpAnyH_ready (rs:=[3,10]) kR (by simp) ?_
   refine AllReadyH.cons (o:=_) rfl (fun K hK=>?_) (AllReadyH.cons (o:=_) rfl (fun K hK=>?_) AllReadyH.nil)
   ·skip
    go_simp
    go_at_call 88;refine (Copy_any (O3.out.rd.ext (by repeat (first | exact Ext.refl _ | refine eT ?_ (Ext.alloc _ _) | refine eT ?_ (drew_ext _) | refine eT ?_ ba | refine eT ?_ b11 | refine eT ?_ b10 | refine eT ?_ b9 | refine eT ?_ b8 | refine eT ?_ b7 | refine eT ?_ b6 | refine eT ?_ b5 | refine eT ?_ b4 | refine eT ?_ b3 | refine eT ?_ b2 | refine eT ?_ b1))) oM).mono ?_;rintro e w8 ⟨v8,rfl,b8,o8⟩;have O8:=qH o8;clear o8
    go_wp2_with fail
    refine hK.out _ _ (D1.out.ext xX) (fun hHeld=>?_)
    clear hK K
    try simp only [jP,jJ]
    refine wpAnyH_ready (rs:=[5,10]) kR (by simp) ?_
    refine AllReadyH.cons (o:=_) rfl (fun K hK=>?_) (AllReadyH.cons (o:=_) rfl (fun K hK=>?_) AllReadyH.nil)
    ·skip
     go_simp
     go_at_call 88;refine (Copy_any (HZ.out.ext xX) oM).mono ?_;rintro e w9 ⟨v9,rfl,b9,o9⟩;have O9:=qH o9;clear o9
     go_wp2_with fail
     refine hK.out _ _ (D1.out.ext xX) (fun hHeld=>?_)
     clear hK K
     try simp only [jP,jJ]
     refine wpAnyH_ready (rs:=[6,10]) kR (by simp) ?_
     refine AllReadyH.cons (o:=_) rfl (fun K hK=>?_) (AllReadyH.cons (o:=_) rfl (fun K hK=>?_) AllReadyH.nil)
     ·skip
      go_simp
      go_at_call 87;refine (make_any (r:=r) (O8.out.rd.ext xX) (O9.out.rd.ext xX) oM oM (by rw [HD.out];exact denOf_ne ys) (by rw [HD.out];exact HRR.out)).mono ?_;rintro e w10 ⟨_,rfl,b10,_,rfl,n10,d10,rfl,on10,od10⟩;have ON10:=qH on10;have OD10:=qH od10;clear on10 od10;obtain ⟨an10,cn10,rfl,-,-,-,-⟩:=ON10.out.rd.1.shape;obtain ⟨ad10,cd10,rfl,-,-,-,-⟩:=OD10.out.rd.1.shape
      go_wp2_with fail
      refine hK.out _ _ (D1.out.ext xX) (fun hHeld=>?_)
      clear hK K
      try simp only [jP,jJ]
      refine tkH 7 hHeld ?_
      simp only [jP,jJ]
      refine tkH 8 hHeld ?_
      simp only [jP,jJ]
      refine tkH 9 hHeld ?_
      simp only [jP,jJ]
      refine rdH 10 kR rfl (fun K hK=>?_)
      go_simp
      refine hK.out _ _ (D1.out.ext xX) (fun hHeld=>?_)
      clear hK K
      try simp only [jP,jJ]
      obtain ⟨wa,hwa,ba,ra,za⟩:=boxR w10 (.bool false) (.slice none 0 0) (.slice none 0 0) 38
      rw [← hwa] at hHeld ⊢
      have RA:Hid (Room3 wa w10.heap.size):=ra
      have hsz:Hid (w6.heap.size≤w10.heap.size):=Below.size xX
      have za:wa.heap.size=w10.heap.size+1:=za
      clear hwa ra
      obtain ⟨_,_,_,j0,j1,j2,g0,g1,g2⟩:=(RA.out.ext (show Ext wa wa from xX)).cells
      refine rdH 11 kR rfl (fun K hK=>?_)
      go_simp
      refine hK.out _ _ ((D1.out.ext (show Ext w6 wa from xX)).put (c:=w10.heap.size) (by have:=hsz.out;have:=hsq.out;omega) _ _ _) (fun hHeld=>?_)
      clear hK K
      try simp only [jP,jJ]
      refine tkH 12 hHeld ?_
      simp only [jP,jJ]
      refine dnH kR ?_
      have hd6:w6.drew.heap.size=w6.heap.size:=rfl
      have h8:=b8.size
      have h9:=b9.size
      have h10:=b10.size
      have ha:=ba.size
      have hda:wa.drew.heap.size=wa.heap.size:=rfl
      go_wp2_with fail
      go_meet
      exact ⟨rfl,put3_below xX hsz.out _ _ _,_,_,_,_,_,rfl,hsz,Box3.put_at (RA.out.ext xX) _ _ _,(ON10.out.put_new xX oM _ _ _).mono oM,(OD10.out.put_new xX oM _ _ _).mono oM⟩
     skip
     go_simp
     refine hK.out _ _ (D1.out.ext xX) (fun hHeld=>?_)
     clear hK K
     try simp only [jP,jJ]
     obtain ⟨wa,hwa,ba,ra,za⟩:=boxR w9 (.bool false) (.slice none 0 0) (.slice none 0 0) 38
     rw [← hwa] at hHeld ⊢
     have RA:Hid (Room3 wa w9.heap.size):=ra
     have hsz:Hid (w6.heap.size≤w9.heap.size):=Below.size xX
     have za:wa.heap.size=w9.heap.size+1:=za
     clear hwa ra
     refine rdH 6 kR rfl (fun K hK=>?_)
     go_simp
     go_at_call 87;refine (make_any (r:=r) (O8.out.rd.ext xX) (O9.out.rd.ext xX) oM oM (by rw [HD.out];exact denOf_ne ys) (by rw [HD.out];exact HRR.out)).mono ?_;rintro e w10 ⟨_,rfl,b10,_,rfl,n10,d10,rfl,on10,od10⟩;have ON10:=qH on10;have OD10:=qH od10;clear on10 od10;obtain ⟨an10,cn10,rfl,-,-,-,-⟩:=ON10.out.rd.1.shape;obtain ⟨ad10,cd10,rfl,-,-,-,-⟩:=OD10.out.rd.1.shape
     go_wp2_with fail
     refine hK.out _ _ (D1.out.ext xX) (fun hHeld=>?_)
     clear hK K
     try simp only [jP,jJ]
     refine tkH 7 hHeld ?_
     simp only [jP,jJ]
     refine tkH 8 hHeld ?_
     simp only [jP,jJ]
     refine tkH 9 hHeld ?_
     simp only [jP,jJ]
     obtain ⟨_,_,_,j0,j1,j2,g0,g1,g2⟩:=(RA.out.ext (show Ext wa w10 from xX)).cells
     refine rdH 11 kR rfl (fun K hK=>?_)
     go_simp
     refine hK.out _ _ ((D1.out.ext (show Ext w6 w10 from xX)).put (c:=w9.heap.size) (by have:=hsz.out;have:=hsq.out;omega) _ _ _) (fun hHeld=>?_)
     clear hK K
     try simp only [jP,jJ]
     refine tkH 12 hHeld ?_
     simp only [jP,jJ]
     refine dnH kR ?_
     have hd6:w6.drew.heap.size=w6.heap.size:=rfl
     have h8:=b8.size
     have h9:=b9.size
     have h10:=b10.size
     have ha:=ba.size
     have hda:wa.drew.heap.size=wa.heap.size:=rfl
     go_wp2_with fail
     go_meet
     exact ⟨rfl,put3_below xX hsz.out _ _ _,_,_,_,_,_,rfl,hsz,Box3.put_at (RA.out.ext xX) _ _ _,(ON10.out.put_new xX oM _ _ _).mono oM,(OD10.out.put_new xX oM _ _ _).mono oM⟩
    skip
    go_simp
    refine hK.out _ _ (D1.out.ext xX) (fun hHeld=>?_)
    clear hK K
    try simp only [jP,jJ]
    obtain ⟨wa,hwa,ba,ra,za⟩:=boxR w8 (.bool false) (.slice none 0 0) (.slice none 0 0) 38
    rw [← hwa] at hHeld ⊢
    have RA:Hid (Room3 wa w8.heap.size):=ra
    have hsz:Hid (w6.heap.size≤w8.heap.size):=Below.size xX
    have za:wa.heap.size=w8.heap.size+1:=za
    clear hwa ra
    refine rdH 5 kR rfl (fun K hK=>?_)
    go_simp
    go_at_call 88;refine (Copy_any (HZ.out.ext xX) oM).mono ?_;rintro e w9 ⟨v9,rfl,b9,o9⟩;have O9:=qH o9;clear o9
    go_wp2_with fail
    refine hK.out _ _ (D1.out.ext xX) (fun hHeld=>?_)
    clear hK K
    try simp only [jP,jJ]
    refine rdH 6 kR rfl (fun K hK=>?_)
    go_simp
    go_at_call 87;refine (make_any (r:=r) (O8.out.rd.ext xX) (O9.out.rd.ext xX) oM oM (by rw [HD.out];exact denOf_ne ys) (by rw [HD.out];exact HRR.out)).mono ?_;rintro e w10 ⟨_,rfl,b10,_,rfl,n10,d10,rfl,on10,od10⟩;have ON10:=qH on10;have OD10:=qH od10;clear on10 od10;obtain ⟨an10,cn10,rfl,-,-,-,-⟩:=ON10.out.rd.1.shape;obtain ⟨ad10,cd10,rfl,-,-,-,-⟩:=OD10.out.rd.1.shape
    go_wp2_with fail
    refine hK.out _ _ (D1.out.ext xX) (fun hHeld=>?_)
    clear hK K
    try simp only [jP,jJ]
    refine tkH 7 hHeld ?_
    simp only [jP,jJ]
    refine tkH 8 hHeld ?_
    simp only [jP,jJ]
    refine tkH 9 hHeld ?_
    simp only [jP,jJ]
    obtain ⟨_,_,_,j0,j1,j2,g0,g1,g2⟩:=(RA.out.ext (show Ext wa w10 from xX)).cells
    refine rdH 11 kR rfl (fun K hK=>?_)
    go_simp
    refine hK.out _ _ ((D1.out.ext (show Ext w6 w10 from xX)).put (c:=w8.heap.size) (by have:=hsz.out;have:=hsq.out;omega) _ _ _) (fun hHeld=>?_)
    clear hK K
    try simp only [jP,jJ]
    refine tkH 12 hHeld ?_
    simp only [jP,jJ]
    refine dnH kR ?_
    have hd6:w6.drew.heap.size=w6.heap.size:=rfl
    have h8:=b8.size
    have h9:=b9.size
    have h10:=b10.size
    have ha:=ba.size
    have hda:wa.drew.heap.size=wa.heap.size:=rfl
    go_wp2_with fail
    go_meet
    exact ⟨rfl,put3_below xX hsz.out _ _ _,_,_,_,_,_,rfl,hsz,Box3.put_at (RA.out.ext xX) _ _ _,(ON10.out.put_new xX oM _ _ _).mono oM,(OD10.out.put_new xX oM _ _ _).mono oM⟩
   skip
   go_simp
   refine hK.out _ _ (D1.out.ext xX) (fun hHeld=>?_)
   clear hK K
   try simp only [jP,jJ]
   obtain ⟨wa,hwa,ba,ra,za⟩:=boxR w6 (.bool false) (.slice none 0 0) (.slice none 0 0) 38
   rw [← hwa] at hHeld ⊢
   have RA:Hid (Room3 wa w6.heap.size):=ra
   have hsz:Hid (w6.heap.size≤w6.heap.size):=Below.size xX
   have za:wa.heap.size=w6.heap.size+1:=za
   clear hwa ra
   refine rdH 3 kR rfl (fun K hK=>?_)
   go_simp
   go_at_call 88;refine (Copy_any (O3.out.rd.ext (by repeat (first | exact Ext.refl _ | refine eT ?_ (Ext.alloc _ _) | refine eT ?_ (drew_ext _) | refine eT ?_ ba | refine eT ?_ b11 | refine eT ?_ b10 | refine eT ?_ b9 | refine eT ?_ b8 | refine eT ?_ b7 | refine eT ?_ b6 | refine eT ?_ b5 | refine eT ?_ b4 | refine eT ?_ b3 | refine eT ?_ b2 | refine eT ?_ b1))) oM).mono ?_;rintro e w8 ⟨v8,rfl,b8,o8⟩;have O8:=qH o8;clear o8
   go_wp2_with fail
   refine hK.out _ _ (D1.out.ext xX) (fun hHeld=>?_)
   clear hK K
   try simp only [jP,jJ]
   refine rdH 5 kR rfl (fun K hK=>?_)
   go_simp
   go_at_call 88;refine (Copy_any (HZ.out.ext xX) oM).mono ?_;rintro e w9 ⟨v9,rfl,b9,o9⟩;have O9:=qH o9;clear o9
   go_wp2_with fail
   refine hK.out _ _ (D1.out.ext xX) (fun hHeld=>?_)
   clear hK K
   try simp only [jP,jJ]
   refine rdH 6 kR rfl (fun K hK=>?_)
   go_simp
   go_at_call 87;refine (make_any (r:=r) (O8.out.rd.ext xX) (O9.out.rd.ext xX) oM oM (by rw [HD.out];exact denOf_ne ys) (by rw [HD.out];exact HRR.out)).mono ?_;rintro e w10 ⟨_,rfl,b10,_,rfl,n10,d10,rfl,on10,od10⟩;have ON10:=qH on10;have OD10:=qH od10;clear on10 od10;obtain ⟨an10,cn10,rfl,-,-,-,-⟩:=ON10.out.rd.1.shape;obtain ⟨ad10,cd10,rfl,-,-,-,-⟩:=OD10.out.rd.1.shape
   go_wp2_with fail
   refine hK.out _ _ (D1.out.ext xX) (fun hHeld=>?_)
   clear hK K
   try simp only [jP,jJ]
   refine tkH 7 hHeld ?_
   simp only [jP,jJ]
   refine tkH 8 hHeld ?_
   simp only [jP,jJ]
   refine tkH 9 hHeld ?_
   simp only [jP,jJ]
   obtain ⟨_,_,_,j0,j1,j2,g0,g1,g2⟩:=(RA.out.ext (show Ext wa w10 from xX)).cells
   refine rdH 11 kR rfl (fun K hK=>?_)
   go_simp
   refine hK.out _ _ ((D1.out.ext (show Ext w6 w10 from xX)).put (c:=w6.heap.size) (by have:=hsz.out;have:=hsq.out;omega) _ _ _) (fun hHeld=>?_)
   clear hK K
   try simp only [jP,jJ]
   refine tkH 12 hHeld ?_
   simp only [jP,jJ]
   refine dnH kR ?_
   have hd6:w6.drew.heap.size=w6.heap.size:=rfl
   have h8:=b8.size
   have h9:=b9.size
   have h10:=b10.size
   have ha:=ba.size
   have hda:wa.drew.heap.size=wa.heap.size:=rfl
   go_wp2_with fail
   go_meet
   exact ⟨rfl,put3_below xX hsz.out _ _ _,_,_,_,_,_,rfl,hsz,Box3.put_at (RA.out.ext xX) _ _ _,(ON10.out.put_new xX oM _ _ _).mono oM,(OD10.out.put_new xX oM _ _ _).mono oM⟩
  case rest=>
   obtain ⟨rfl,b7,B,an,cn,ad,cd,rfl,hB,C4,ON,OD⟩:=hcut
   generalize wc=w7 at*
   have E1:=qH (D1.out.ext b7)
   go_upto_region 7 with (fail)
   have b8:=drew_ext w7
   have XE:=b8
   refine wp_region_noPanic ?_
   refine wp_region_held_drew (S:=fun w'=>(w'.cell? ⟨w.heap.size,0,none⟩=some (.bool s)∧w'.cell? ⟨w.heap.size,1,none⟩=some (a)∧w'.cell? ⟨w.heap.size,2,none⟩=some (b))∧(w'.cell? ⟨B,0,none⟩=some (.bool (decide (r.num < 0)))∧w'.cell? ⟨B,1,none⟩=some (.slice an (limbs r.num.natAbs).length cn)∧w'.cell? ⟨B,2,none⟩=some (.slice ad (dens r.den).length cd))) kR (⟨E1.out.ext XE,C4.out.ext XE⟩) (fun hHeld=>?_)
   refine tkH 0 hHeld ?_
   simp only [jP,jJ]
   refine tkH 1 hHeld ?_
   simp only [jP,jJ]
   refine tkH 2 hHeld ?_
   simp only [jP,jJ]
   refine tkH 3 hHeld ?_
   simp only [jP,jJ]
   refine tkH 5 hHeld ?_
   simp only [jP,jJ]
   refine rdH 4 kR rfl (fun K hK=>?_)
   go_simp
   go_at_call 82;refine (Of_any (O3.out.rd.ext (eT b4 (eT b5 (eT b6 (eT b7 b8))))) oM).mono ?_;rintro e w9 ⟨v9,rfl,b9,o9⟩;have O9:=qH o9;clear o9;(first | have XE:=eT XE b9 | have XE:=eT (eT XE (Ext.alloc _ _)) b9)
   go_wp2_with fail
   refine hK.out _ _ (⟨E1.out.ext XE,C4.out.ext XE⟩) (fun hHeld=>?_)
   clear hK K
   try simp only [jP,jJ]
   refine rdH 6 kR rfl (fun K hK=>?_)
   go_simp
   go_at_call 82;refine (Of_any (HZ.out.ext (eT b7 (eT b8 b9))) oM).mono ?_;rintro e w10 ⟨v10,rfl,b10,o10⟩;have O10:=qH o10;clear o10;(first | have XE:=eT XE b10 | have XE:=eT (eT XE (Ext.alloc _ _)) b10)
   go_wp2_with fail
   refine hK.out _ _ (⟨E1.out.ext XE,C4.out.ext XE⟩) (fun hHeld=>?_)
   clear hK K
   try simp only [jP,jJ]
   refine rdH 7 kR rfl (fun K hK=>?_)
   go_simp
   go_at_call 83;refine (r5of_to (r:=r) w7.heap.size ((O9.out.ext b10).mono (Nat.le_refl w7.heap.size)) (O10.out.mono b9.size) (Below.size (eT b8 (eT b9 b10))) (by have:=blen_nv O3.out.2;omega) (by have:=blen_nv HZ.out.2;omega) (by rw [HD.out];exact denOf_ne ys) (by rw [HD.out];exact HRR.out)).mono ?_;rintro e w11 ⟨_,rfl,b11,n11,d11,rfl,on11,od11⟩;have ON11:=qH on11;have OD11:=qH od11;clear on11 od11;obtain ⟨an11,cn11,rfl,-,-,-,-⟩:=ON11.out.rd.shape;obtain ⟨ad11,cd11,rfl,-,-,-,-⟩:=OD11.out.rd.shape;(first | have XE:=eT XE b11 | have XE:=eT (eT XE (Ext.alloc _ _)) b11);obtain ⟨_,_,_,j0,j1,j2,g0,g1,g2⟩:=(D2.out.ext (eT b7 (eT b8 (eT b9 (eT b10 b11))))).cells;obtain ⟨_,_,_,k0,k1,k2,f0,f1,f2⟩:=(D3.out.ext (eT b7 (eT b8 (eT b9 (eT b10 b11))))).cells
   go_wp2_with fail
   refine hK.out _ _ (⟨E1.out.ext XE,C4.out.ext XE⟩) (fun hHeld=>?_)
   clear hK K
   try simp only [jP,jJ]
   refine rdH 8 kR rfl (fun K hK=>?_)
   go_simp
   refine hK.out _ _ (⟨(E1.out.ext XE).put oM _ _ _,(C4.out.ext XE).put (by have:=hB.out;have:=hs6.out;omega) _ _ _⟩) (fun hHeld=>?_)
   clear hK K
   try simp only [jP,jJ]
   refine rdH 9 kR rfl (fun K hK=>?_)
   go_simp
   refine hK.out _ _ (⟨((E1.out.ext XE).put oM _ _ _).put oM _ _ _,((C4.out.ext XE).put (by have:=hB.out;have:=hs6.out;omega) _ _ _).put (by have:=hB.out;have:=hs6.out;omega) _ _ _⟩) (fun hHeld=>?_)
   clear hK K
   try simp only [jP,jJ]
   refine dnH kR ?_
   go_wp2_with fail
   refine bodyPost_ret (v:=.tuple #[.agg #[.bool (decide (r.num < 0)),.slice an (limbs r.num.natAbs).length cn,.slice ad (dens r.den).length cd],.agg #[.bool (decide (r.num < 0)),.slice an11 (bitsOf r.num.natAbs).length cn11,.slice ad11 (bitsOf r.den).length cd11]]) (by simp [results,Tryz.results55,go_sem,j0,j1,j2,k0,k1,k2]) rfl ?_
   have h7:=b7.size
   have h6:=hs6.out
   exact hR.out _ _ (Gives.mk (put3_below (put3_below (eT b1 (eT b2 (eT b3 (eT b4 (eT b5 (eT b6 (eT b7 (eT b8 (eT b9 (eT b10 b11)))))))))) oM _ _ _) oM _ _ _) ⟨_,_,rfl,⟨_,_,rfl,(((ON.out.ext (eT b8 (eT b9 (eT b10 b11)))).put oM _ _ _).put oM _ _ _).mono oM,(((OD.out.ext (eT b8 (eT b9 (eT b10 b11)))).put oM _ _ _).put oM _ _ _).mono oM⟩,⟨_,_,rfl,((ON11.out.put oM _ _ _).put oM _ _ _).mono oM,((OD11.out.put oM _ _ _).put oM _ _ _).mono oM⟩⟩)
open Go.RowKit Go.Att

theorem told_any {w:World} {v:Value} {q:Rat} (hq:RdQ w v q) (sq:Sz 1000000 q):
  Calls Tryz.prog 50 #[v] w (Gives w fun v' w'=>OwnP 4 w.heap.size w' v' q):=by
 refine via fun R hR=>?_
 have HQ:=qH hq
 have SQ:=qH sq
 have SB:=qH sq.bits
 obtain ⟨n,d,rfl,-,-⟩:=hq
 obtain ⟨w1,hw1,b1,c1,-,-,r2,-⟩:=bx2 w [.bool (decide (q.num < 0)),n,d] [.bool false,.slice none 0 0,.slice none 0 0] 38 153
 obtain ⟨k0,k1,k2⟩:=c1.c3
 have R2:Hid (Room3 w1 (w.heap.size+1)):=r2.room3
 have hz:=qH r2.lt
 have HW:=qH hw1
 have hl:(((bitsOf q.den).length:Int) == 0)=false:=beqF (by have:=bits_len_pos.2 q.den_pos;omega)
 have HSELF:Hid (mkQ (decide (q.num < 0)) q.num.natAbs q.den=q):=mkQ_self q
 clear sq c1 r2 hw1
 go_enter Tryz.func50,Tryz.ntmps50
 go_upto_region 1 with (fail)
 rw [← HW.out]
 clear HW
 go_wp2_with fail
 clear k0 k1 k2
 refine (parts_any (HQ.out.ext b1) SQ.out.1 SQ.out.2).mono ?_
 rintro e w2 ⟨_,rfl,b2,v2,v3,rfl,o2,o3⟩
 have O2:=qH o2
 have OD:=qH o3
 clear o2 o3
 go_wp2_with fail
 refine (Of_any OD.out.rd (by have:=SQ.out.2;omega)).mono ?_
 rintro e w3 ⟨v4,rfl,b3,o4⟩
 rw [nv_limbs] at o4
 obtain ⟨a4,c4,rfl,-,-,-,-⟩:=o4.rd.shape
 clear o4
 go_wp2_with fail
 refine (Of_any (O2.out.rd.ext b3) (by have:=SQ.out.1;omega)).mono ?_
 rintro e w4 ⟨v5,rfl,b4,o5⟩
 rw [nv_limbs] at o5
 have O5:=qH o5
 clear o5
 go_wp2_with fail
 refine (Of_any (OD.out.rd.ext (eT b3 b4)) (by have:=SQ.out.2;omega)).mono ?_
 rintro e w5 ⟨v6,rfl,b5,o6⟩
 rw [nv_limbs] at o6
 have O6:=qH o6
 clear o6
 have z1:w3.heap.size≤w4.heap.size:=Below.size b4
 have z2:w4.heap.size≤w5.heap.size:=Below.size b5
 go_wp2_with fail
 refine (HSELF.out ▸ r5of_any (B:=w3.heap.size) (s:=decide (q.num < 0)) (n:=q.num.natAbs) (d:=q.den) oM (O5.out.ext b5) (O6.out.mono oM) (by have:=SB.out.1;omega) (by have:=SB.out.2;omega) q.den_nz).mono ?_
 rintro e w6 ⟨_,rfl,b6,n7,d7,rfl,on,od⟩
 obtain ⟨an,cn,rfl,-,-,-,-⟩:=on.rd.shape
 obtain ⟨ad,cd,rfl,-,-,-,-⟩:=od.rd.shape
 have ON:=qH on
 have OD7:=qH od
 obtain ⟨_,_,_,j0,j1,j2,g0,g1,g2⟩:=(R2.out.ext (eT b2 (eT b3 (eT b4 (eT b5 b6))))).cells
 clear on od
 go_wp2_with fail
 refine bodyPost_ret (v:=.agg #[.bool (decide (q.num < 0)),.slice an (bitsOf q.num.natAbs).length cn,.slice ad (bitsOf q.den).length cd]) (by simp [results,Tryz.results50,go_sem,j0,j1,j2]) rfl ?_
 have hs:=(eT b2 b3).size
 exact hR.out _ _ (Gives.mk (put3_below (eT b1 (eT b2 (eT b3 (eT b4 (eT b5 b6))))) oM _ _ _) ⟨_,_,rfl,(OwnB.put3 ON.out (Ext.refl _) (by have:=hz.out;omega) _ _ _).mono (by have:=hz.out;omega),(OwnB.put3 OD7.out (Ext.refl _) (by have:=hz.out;omega) _ _ _).mono (by have:=hz.out;omega)⟩)

theorem of8_any {w:World} {v:Value} {s:Bool} {xs ys:List Nat} (hv:RdN w v s xs ys) (hx:xs.length≤1000000000) (hy:ys.length≤1000000000):
  Calls Tryz.prog 29 #[v] w (Gives w fun v' w'=>OwnQ 156 w.heap.size w' v' (qOf s xs ys)):=by
 refine via fun R hR=>?_
 have HV:=qH hv
 have HB:Hid (∀ {w v},RdN w v s xs ys→Calls Tryz.prog 55 #[v] w (Gives w fun v' w'=>∃ o1 o2,v'=.tuple #[o1,o2]∧OwnQ 156 w.heap.size w' o1 (qOf s xs ys)∧OwnP 4 w.heap.size w' o2 (qOf s xs ys))):=fun h=>both_any h hx hy
 generalize qOf s xs ys=q at*
 obtain ⟨y1,y2,rfl,-,-⟩:=hv
 obtain ⟨w1,hw1,b1,c1,-,-,r2,-⟩:=bx2 w [.bool s,y1,y2] [.bool false,.slice none 0 0,.slice none 0 0] 102 38
 obtain ⟨k0,k1,k2⟩:=c1.c3
 have R2:Hid (Room3 w1 (w.heap.size+1)):=r2.room3
 have hz:=qH r2.lt
 have HW:=qH hw1
 clear c1 r2 hw1
 go_enter Tryz.func29,Tryz.ntmps29
 go_upto_region 1 with (fail)
 rw [← HW.out]
 clear HW
 go_wp2_with fail
 clear k0 k1 k2
 refine (HB.out (HV.out.ext b1)).mono ?_
 rintro e w2 ⟨_,rfl,b2,_,_,rfl,⟨n,d,rfl,on,od⟩,⟨m,c,rfl,om,oc⟩⟩
 obtain ⟨an,cn,rfl,-,-,-,-⟩:=on.rd.1.shape
 obtain ⟨ad,cd,rfl,-,-,-,-⟩:=od.rd.1.shape
 obtain ⟨am,cm,rfl,-,-,-,-⟩:=om.rd.shape
 obtain ⟨ac,cc,rfl,-,-,-,-⟩:=oc.rd.shape
 obtain ⟨w3,hw,b3,c1,-,-,-,-⟩:=bx2 w2 [.bool (decide (q.num < 0)),.slice an (limbs q.num.natAbs).length cn,.slice ad (dens q.den).length cd] [.bool (decide (q.num < 0)),.slice am (bitsOf q.num.natAbs).length cm,.slice ac (bitsOf q.den).length cc] 38 153
 have HW:=qH hw
 have ON:=qH on
 have OD:=qH od
 obtain ⟨k0,k1,k2⟩:=c1.c3
 obtain ⟨_,_,_,j0,j1,j2,g0,g1,g2⟩:=(R2.out.ext (eT b2 b3)).cells
 clear hw c1 on od om oc
 go_upto_region 2 with (fail)
 rw [← HW.out]
 clear HW
 go_wp2_with fail
 refine bodyPost_ret (v:=.agg #[.bool (decide (q.num < 0)),.slice an (limbs q.num.natAbs).length cn,.slice ad (dens q.den).length cd]) (by simp [results,Tryz.results29,go_sem,j0,j1,j2]) rfl ?_
 exact hR.out _ _ (Gives.mk (put3_below (eT b1 (eT b2 b3)) oM _ _ _) ⟨_,_,rfl,(ON.out.put_new b3 (by have:=hz.out;omega) _ _ _).mono (by have:=hz.out;omega),(OD.out.put_new b3 (by have:=hz.out;omega) _ _ _).mono (by have:=hz.out;omega)⟩)

open Go.RowKit Go.Att

theorem et17D:ElemT Tryz.prog 73 41 (.agg #[.bool false,.slice none 0 0,.slice none 0 0,.bool false,.slice none 0 0,.slice none 0 0]) 6 112:=ElemT.mk' Tryz.underlying73 kR rfl dC
theorem etRats:ElemT Tryz.prog 55 38 (.agg #[.bool false,.slice none 0 0,.slice none 0 0]) 3 56:=ElemT.mk' Tryz.underlying55 kR rfl dC
def qND (p:NN × NN):Rat × Rat:=(qN p.1,qN p.2)
theorem take_map_snoc {α β:Type} (f:α→β) {l:List α} {k:Nat} (h:k < l.length):(l.take (k+1)).map f=(l.take k).map f ++ [f l[k]]:=by
 rw [← List.take_append_getElem h,List.map_append];rfl
end Go.Proofs.YtmlhccajicmpfaaGreat

namespace Go.Att
open Go.RowKit

theorem append_rowG {α:Type} {P:Program} {w:World} {o:Oper} {a:Act} {K:Act→World→Prop} {Q:Exit→Act→World→Prop} {t e:TypeId} {z:Value} {size bytes:Nat} (ET:ElemT P t e z size bytes) {T:World→Value→α→Prop} (hT:Kd e T)
  (s x:Operand) (ho:o.op=.call { callee:=.builtin .append,args:=#[s,x],argTypes:=#[t,t] }) (B:Nat) {v:Value} {l:List α} {y:α} (hs:a.eval s=v)
  (hown:OwnRow size T e B w v l) {ad:Addr} {c:Nat} (hx:a.eval x=.slice (some ad) 1 c) (hr:RdRow size T w (.slice (some ad) 1 c) [y]) (hl:(l.length+1)*bytes≤140737488355328) (hm:l.length+1≤maxLen) (hB:B≤w.heap.size)
  (h:∀ v' w',OwnRow size T e B w' v' (l ++ [y])→Below B w w'→w.grownBy w' v.ownBlock→(∀ g,v'.ownBlock=some g→v.ownBlock=some g∨w.heap.size≤g)→K (a.put o.dst v') w'):o.wp P a w K Q:=by
 obtain ⟨E,hE,hP⟩:=hown
 obtain ⟨F,hF,hPF⟩:=hr
 obtain ⟨i,hi,hz,hsz,hby⟩:=ET.inf
 have h1:∀ u∈F.flatten,u.oneCell'=true:=fun u hu=>by
  cases F with
  | nil=>simp at hu
  | cons f F=>
   have h2:Pw size (fun c a=>T w (.agg c.toArray) a) F ([]:List α):=hPF.2
   cases F with
   | nil=>rw [List.flatten_cons,List.flatten_nil,List.append_nil] at hu;exact hT.one hPF.1.2 u hu
   | cons _ _=>exact h2.elim
 have hlen:F.flatten.length=1*size:=hF.1
 obtain ⟨v',w',hrun,h2,h3,-⟩:=run_append_own (P:=P) w B t o.type e i z size bytes ET.und hi hz hsz hby ET.cells ET.pos v l.length E.flatten hE ad 1 c F.flatten hlen (hF.news _ rfl) h1 hm hl hB
 have hw:=append_where (P:=P) w B t o.type e i z size bytes ET.und hi hz hsz hby v l.length E.flatten hE ad 1 c F.flatten hlen (hF.news _ rfl) h1 hm hl oM hrun
 have hb:Below B w w':=(Below.refl B _).grown h3 hB (fun k hk=>(hE.lt k hk).1)
 unfold Oper.wp execOp
 simp only [ho,resolve,invoke,builtin,Sem.run_bind,Sem.run_pure,Result.andThen_ok,List.map_toArray,List.map_cons,List.map_nil,hs,hx,hrun]
 refine h v' w' ⟨E ++ F,?_,(hP.mono fun _ _ h=>hT.grown h hE h3).app (hPF.mono fun _ _ h=>hT.grown h hE h3)⟩ hb h3 hw
 rw [List.length_append,List.flatten_append]
 exact h2
theorem append_rowGL {α:Type} {P:Program} {w:World} {ops:Array Oper} {rest:List Oper} {o:Oper} {a:Act} {Q:Exit→Act→World→Prop} {t e:TypeId} {z:Value} {size bytes:Nat} (ET:ElemT P t e z size bytes) {T:World→Value→α→Prop} (hT:Kd e T)
  (hgd:Region.wanted o (yielded ops a.tmps)=true) (s x:Operand) (ho:o.op=.call { callee:=.builtin .append,args:=#[s,x],argTypes:=#[t,t] }) (B:Nat) {v:Value} {l:List α} {y:α} (hs:a.eval s=v)
  (hown:OwnRow size T e B w v l) {ad:Addr} {c:Nat} (hx:a.eval x=.slice (some ad) 1 c) (hr:RdRow size T w (.slice (some ad) 1 c) [y]) (hl:(l.length+1)*bytes≤140737488355328) (hm:l.length+1≤maxLen) (hB:B≤w.heap.size)
  (h:∀ v' w',OwnRow size T e B w' v' (l ++ [y])→Below B w w'→w.grownBy w' v.ownBlock→(∀ g,v'.ownBlock=some g→v.ownBlock=some g∨w.heap.size≤g)→wpList P ops Q rest (a.put o.dst v') w'):wpList P ops Q (o :: rest) a w:=
 wpList_want hgd fun _ hK=>append_rowG ET hT s x ho B hs hown hx hr hl hm hB fun v' w' a1 a2 a3 a4=>hK _ _ (h v' w' a1 a2 a3 a4)
theorem fill_s1 (a:Option Addr) (n k:Nat):Instr.fill (fun i=>some (i*1,1)) ((Array.range (1*1)).map ((Value.slice none 0 0).cells[· % (Value.slice none 0 0).cells.size]!)) [(0,.slice a n k)]=some #[.slice a n k]:=by kernel_rfl
theorem fill_i1 (z:Int):Instr.fill (fun i=>some (i*1,1)) ((Array.range (1*1)).map ((Value.int .i64 0).cells[· % (Value.int .i64 0).cells.size]!)) [(0,.int .i64 z)]=some #[.int .i64 z]:=by kernel_rfl
theorem fill_d1 (s:Bool) (a:Option Addr) (n k:Nat) (a2:Option Addr) (n2 k2:Nat) (s3:Bool) (a4:Option Addr) (n4 k4:Nat) (a5:Option Addr) (n5 k5:Nat):
  Instr.fill (fun i=>some (i*6,6)) ((Array.range (1*6)).map ((Value.agg #[.bool false,.slice none 0 0,.slice none 0 0,.bool false,.slice none 0 0,.slice none 0 0]).cells[· % (Value.agg #[.bool false,.slice none 0 0,.slice none 0 0,.bool false,.slice none 0 0,.slice none 0 0]).cells.size]!)) [(0,.agg #[.bool s,.slice a n k,.slice a2 n2 k2,.bool s3,.slice a4 n4 k4,.slice a5 n5 k5])]=some #[.bool s,.slice a n k,.slice a2 n2 k2,.bool s3,.slice a4 n4 k4,.slice a5 n5 k5]:=by kernel_rfl
theorem build1K {α:Type} {P:Program} {o:Oper} {a:Act} {K:Act→World→Prop} {Q:Exit→Act→World→Prop} {w:World} {t e:TypeId} {z:Value} {size bytes:Nat} (ET:ElemT P t e z size bytes) {x:Operand} (ho:o.op=.buildSlice t 1 #[(0,x)])
  {T:World→Value→α→Prop} (hT:∀ {w w' v a},T w v a→Ext w w'→T w' v a) {u:Value} (hx:a.eval x=u) (cs:List Value) (hf:Instr.fill (fun i=>some (i*size,size)) ((Array.range (1*size)).map (z.cells[· % z.cells.size]!)) [(0,u)]=some cs.toArray) (hc:cs.length=size) (hs:0 < size∧size≤100) {y:α} (ha:T w (.agg cs.toArray) y)
  (h:∀ g w',Ext w w'→w.heap.size≤g→OwnRow size T e 0 w' (.slice (some ⟨g,0,none⟩) 1 1) [y]→K (a.put o.dst (.slice (some ⟨g,0,none⟩) 1 1)) w'):o.wp P a w K Q:=by
 obtain ⟨i,hi,hz,hsz,-⟩:=ET.inf
 refine wp_buildSlice t e 1 _ ho cs.toArray i _ ET.und hi hz (by rw [hsz];omega) (by rw [hsz];omega) ?_ ?_
 ·rw [hsz]
  have hp:(#[(0,x)].map fun (i,x)=>(i,a.eval x)).toList=[(0,a.eval x)]:=by simp
  rw [hp,hx]
  exact hf
 refine h _ _ (Ext.alloc _ _) (Nat.le_refl _) ⟨[cs],?_,⟨hc,hT ha (Ext.alloc _ _)⟩,trivial⟩
 have:=World.ownsRow_lit (w:=w) (base:=0) (e:=e) (size:=size) cs.toArray 1 (Nat.zero_le _) (by unfold maxLen;omega) (by simpa using hc)
 simpa using this
theorem fill_a1 (x0 x1 x2 x3 x4:Value):
  Instr.fill (fun i=>some (i*5,5)) ((Array.range (1*5)).map ((Value.agg #[.slice none 0 0,.bool false,.slice none 0 0,.slice none 0 0,.int .i64 0]).cells[· % (Value.agg #[.slice none 0 0,.bool false,.slice none 0 0,.slice none 0 0,.int .i64 0]).cells.size]!)) [(0,.agg #[x0,x1,x2,x3,x4])]=some #[x0,x1,x2,x3,x4]:=by kernel_rfl
theorem build1W {α:Type} {P:Program} {ops:Array Oper} {rest:List Oper} {o:Oper} {a:Act} {Q:Exit→Act→World→Prop} {w:World} {t e:TypeId} {z:Value} {size bytes:Nat} (ET:ElemT P t e z size bytes) (hgd:Region.wanted o (yielded ops a.tmps)=true) {x:Operand} (ho:o.op=.buildSlice t 1 #[(0,x)])
  {T:World→Value→α→Prop} (hT:∀ {w w' v a},T w v a→Ext w w'→T w' v a) {u:Value} (hx:a.eval x=u) (cs:List Value) (hf:Instr.fill (fun i=>some (i*size,size)) ((Array.range (1*size)).map (z.cells[· % z.cells.size]!)) [(0,u)]=some cs.toArray) (hc:cs.length=size) (hs:0 < size∧size≤100) {y:α} (ha:T w (.agg cs.toArray) y)
  (h:∀ g w',Ext w w'→w.heap.size≤g→OwnRow size T e 0 w' (.slice (some ⟨g,0,none⟩) 1 1) [y]→wpList P ops Q rest (a.put o.dst (.slice (some ⟨g,0,none⟩) 1 1)) w'):wpList P ops Q (o :: rest) a w:=
 wpList_want hgd fun _ hK=>build1K ET ho (T:=T) hT hx cs hf hc hs ha fun g w' h1 h2 h3=>hK _ _ (h g w' h1 h2 h3)
theorem build2W {α:Type} {P:Program} {ops:Array Oper} {rest:List Oper} {o:Oper} {a:Act} {Q:Exit→Act→World→Prop} {w:World} {t e:TypeId} {z:Value} {size bytes:Nat} (ET:ElemT P t e z size bytes) (hgd:Region.wanted o (yielded ops a.tmps)=true) {x x':Operand} (ho:o.op=.buildSlice t 2 #[(0,x),(1,x')])
  {T:World→Value→α→Prop} (hT:∀ {w w' v a},T w v a→Ext w w'→T w' v a) {u u':Value} (hx:a.eval x=u) (hx':a.eval x'=u') (cs cs':List Value) (hf:Instr.fill (fun i=>some (i*size,size)) ((Array.range (2*size)).map (z.cells[· % z.cells.size]!)) [(0,u),(1,u')]=some (cs ++ cs').toArray) (hc:cs.length=size) (hc':cs'.length=size) (hs:0 < size∧size≤100) {y y':α} (ha:T w (.agg cs.toArray) y) (ha':T w (.agg cs'.toArray) y')
  (h:∀ g w',Ext w w'→w.heap.size≤g→OwnRow size T e 0 w' (.slice (some ⟨g,0,none⟩) 2 2) [y,y']→wpList P ops Q rest (a.put o.dst (.slice (some ⟨g,0,none⟩) 2 2)) w'):wpList P ops Q (o :: rest) a w:=
 wpList_want hgd fun _ hK=>by
  obtain ⟨i,hi,hz,hsz,-⟩:=ET.inf
  refine wp_buildSlice t e 2 _ ho (cs ++ cs').toArray i _ ET.und hi hz (by rw [hsz];omega) (by rw [hsz];omega) ?_ ?_
  ·rw [hsz]
   have hp:(#[(0,x),(1,x')].map fun (i,x)=>(i,a.eval x)).toList=[(0,a.eval x),(1,a.eval x')]:=by simp
   rw [hp,hx,hx']
   exact hf
  refine hK _ _ (h _ _ (Ext.alloc _ _) (Nat.le_refl _) ⟨[cs,cs'],?_,⟨hc,hT ha (Ext.alloc _ _)⟩,⟨hc',hT ha' (Ext.alloc _ _)⟩,trivial⟩)
  have:=World.ownsRow_lit (w:=w) (base:=0) (e:=e) (size:=size) (cs ++ cs').toArray 2 (Nat.zero_le _) (by unfold maxLen;omega) (by simp;omega)
  simpa using this
open Go.RowKit

section
variable {P:Program} {ops:Array Oper} {Q:Exit→Act→World→Prop} {md:Region.Mode} {S:World→Prop} {st:Nat}
def wpAnyT (P:Program) (md:Region.Mode) (ops:Array Oper) (Q:Exit→Act→World→Prop) (st:Nat) (S:World→Prop):Nat→Array Bool→Act→World→Prop
 | 0,l,a,w=>Region.ready md ops l=[]∧Q .normal a w
 | n+1,l,a,w=>(Region.ready md ops l=[]→Q .normal a w)∧
  ∀ i∈Region.ready md ops l,wpOp P ops Q i (fun a' w'=>(i=st→wpAny P md ops Q n (l.setIfInBounds i true) a' w')∧(i≠st→S w'∧wpAnyT P md ops Q st S n (l.setIfInBounds i true) a' w')) a w
theorem wpAny_of_cut:∀ (n:Nat) (l:Array Bool) (a:Act) (w:World),wpAnyT P md ops Q st S n l a w→wpAny P md ops Q n l a w
 | 0,_,_,_,h=>h
 | n+1,_,_,_,h=>⟨h.1,fun i hi=>wpOp_mono (fun a' w' h'=>by
   by_cases e:i=st
   ·exact h'.1 e
   exact wpAny_of_cut n _ a' w' (h'.2 e).2) (h.2 i hi)⟩
def chainB (md:Region.Mode) (ops:Array Oper):Nat→List Nat→Bool
 | _,[]=>true
 | x,y :: c=>waitsB md ops y x && chainB md ops y c
theorem getD_un {l:Array Bool} {y:Nat} (h:l.getD y true=false):l.getD y false=false:=by
 rcases Nat.lt_or_ge y l.size with h' | h'
 ·simp [h'] at h ⊢;exact h
 simp [Array.getElem?_eq_none h'] at h
theorem chain_un {l:Array Bool}:∀ (c:List Nat) (x:Nat),chainB md ops x c=true→l.getD x false=false→(∀ y∈c,l.getD y true=false)→∀ j∈c,j ∉ Region.ready md ops l
 | [],_,_,_,_,_,hj=>by cases hj
 | y :: c,x,hc,hx,hu,j,hj=>by
  unfold chainB at hc
  rw [Bool.and_eq_true] at hc
  rcases List.mem_cons.1 hj with rfl | hj
  ·intro hr
   obtain ⟨_,o,ho,hall⟩:=mem_ready.1 hr
   have hw:=hc.1
   unfold waitsB at hw
   rw [ho] at hw
   simp only [Array.any_eq_true,Bool.and_eq_true,beq_iff_eq] at hw
   obtain ⟨k,hk,h1,h2⟩:=hw
   have:=hall _ (Array.getElem_mem hk) h1
   rw [h2,hx] at this
   cases this
  exact chain_un c y hc.2 (getD_un (hu y List.mem_cons_self)) (fun z hz=>hu z (List.mem_cons_of_mem _ hz)) j hj
theorem wpAnyT_first {i:Nat} {oi:Oper} {v:Value} (hi:ops[i]?=some oi) (hsel:∀ (j:Nat) (o:Oper) cs b,ops[j]?=some o→o.op≠.select cs b)
  (hQ:∀ c a w,Q (.panic c) (a.put oi.dst v) w→Q (.panic c) a w) (c:List Nat) (hc:chainB md ops i c=true) (hsc:st∈c) (hne:i≠st):
  ∀ (n:Nat) (l:Array Bool) (a:Act) (w:World),
   (∀ j oj,ops[j]?=some oj→j≠i→l.getD j true=false→(∀ e∈oj.after,Region.binds md e=true→e.on≠i)→oi.apart ops oj=true)→
   i∈Region.ready md ops l→(∀ y∈c,l.getD y true=false)→YieldsIf P ops S oi v a→S w→
   wpAnyT P md ops Q st S n (l.setIfInBounds i true) (a.put oi.dst v) w→wpAnyT P md ops Q st S (n+1) l a w:=by
 intro n
 induction n with
 | zero=>
  intro l a w _ hr _ hy hS H
  refine ⟨fun h=>(by rw [h] at hr;cases hr),fun j hj=>?_⟩
  by_cases hji:j=i
  ·subst hji;exact hy.wpOp hi hS ⟨fun e=>absurd e hne,fun _=>⟨hS,H⟩⟩
  have:=ready_mono hj hji
  rw [H.1] at this
  cases this
 | succ n ih=>
  intro l a w hfree hr hu hy hS H
  refine ⟨fun h=>(by rw [h] at hr;cases hr),fun j hj=>?_⟩
  by_cases hji:j=i
  ·subst hji;exact hy.wpOp hi hS ⟨fun e=>absurd e hne,fun _=>⟨hS,H⟩⟩
  have h1:=H.2 j (ready_mono hj hji)
  obtain ⟨hjun,oj,hoj,hall⟩:=mem_ready.1 hj
  have hnot:∀ e∈oj.after,Region.binds md e=true→e.on≠i:=fun e he hb heq=>by
   have h1:=hall e he hb
   have h0:=(mem_ready.1 hr).1
   rw [heq] at h1
   rcases Nat.lt_or_ge i l.size with h' | h'
   ·simp [h'] at h0 h1;rw [h0] at h1;cases h1
   simp [Array.getElem?_eq_none h'] at h1
  have hjc:j ∉ c:=fun h=>chain_un c i hc (getD_un (mem_ready.1 hr).1) hu j h hj
  have hfree':∀ k ok,ops[k]?=some ok→k≠i→(l.setIfInBounds j true).getD k true=false→
    (∀ e∈ok.after,Region.binds md e=true→e.on≠i)→oi.apart ops ok=true:=fun k ok hk hki hun hno=>by
   refine hfree k ok hk hki ?_ hno
   by_cases hjk:j=k
   ·subst hjk;exact hjun
   rw [getD_set_ne true hjk] at hun;exact hun
  have hu':∀ y∈c,(l.setIfInBounds j true).getD y true=false:=fun y hy=>by
   rw [getD_set_ne true (fun e=>hjc (by rw [e];exact hy))];exact hu y hy
  have h2:=wpOp_putIf hoj (hfree j oj hoj hji hjun hnot) (fun cs b=>hsel i oi cs b hi) (fun cs b=>hsel j oj cs b hoj) hQ hy h1
  have hjs:j≠st:=fun e=>hjc (e ▸ hsc)
  refine wpOp_mono (fun a' w' h3=>⟨fun e=>absurd e hjs,fun _=>⟨(h3.2.2 hjs).1,ih (l.setIfInBounds j true) a' w' hfree' (ready_mono hr (Ne.symm hji)) hu' h3.1 (h3.2.2 hjs).1 ?_⟩⟩) h2
  rw [Array.setIfInBounds_comm _ _ hji]
  exact (h3.2.2 hjs).2
theorem wpAnyT_take {i:Nat} {oi:Oper} {v:Value} {n:Nat} {l:Array Bool} {a:Act} {w:World} (c:List Nat) (hi:ops[i]?=some oi)
  (hs:Region.noSelect ops=true) (hf:Region.free md ops l i=true) (hr:(Region.ready md ops l).contains i=true) (hw:(chainB md ops i c && c.contains st && i != st && c.all fun y=>!(l.getD y true))=true)
  (hQ:∀ c a w,Q (.panic c) (a.put oi.dst v) w→Q (.panic c) a w) (hy:YieldsIf P ops S oi v a) (hS:S w)
  (h:wpAnyT P md ops Q st S n (l.setIfInBounds i true) (a.put oi.dst v) w):wpAnyT P md ops Q st S (n+1) l a w:=by
 simp only [Bool.and_eq_true] at hw
 obtain ⟨⟨⟨h1,h2⟩,h3⟩,h4⟩:=hw
 exact wpAnyT_first hi (Region.noSelect_spec hs) hQ c h1 (by simpa using h2) (by simpa using h3) n l a w (Region.free_spec hi hf) (by simpa using hr) (fun y hy=>by have:=List.all_eq_true.1 h4 y hy;simpa using this) hy hS h
theorem tkT {oi:Oper} {v:Value} {n:Nat} {l:Array Bool} {a:Act} {w:World} (i:Nat) (c:List Nat) (hS:S w)
  (h:wpAnyT P md ops Q st S n (l.setIfInBounds i true) (a.put oi.dst v) w) (hi:ops[i]?=some oi:=by rfl) (hb:(Region.noSelect ops && Region.free md ops l i && (Region.ready md ops l).contains i && (chainB md ops i c && c.contains st && i != st && c.all fun y=>!(l.getD y true)))=true:=by kernel_rfl)
  (hQ:∀ c a w,Q (.panic c) (a.put oi.dst v) w→Q (.panic c) a w:=by exact fun _ _ _ h=>h) (hw:Region.wanted oi (yielded ops a.tmps)=true:=by rfl) (hy:∀ w,S w→(execOp a.eval oi).run P w=.ok (.value v) w:=by (intro w0 hSw;(try dsimp only at hSw);go_simp;try with_reducible rfl)):wpAnyT P md ops Q st S (n+1) l a w:=by
 rw [Bool.and_eq_true,Bool.and_eq_true,Bool.and_eq_true] at hb
 exact wpAnyT_take c hi hb.1.1.1 hb.1.1.2 hb.1.2 hb.2 hQ (.inl ⟨hw,hy⟩) hS h
def AllReadyT (P:Program) (md:Region.Mode) (ops:Array Oper) (Q:Exit→Act→World→Prop) (st:Nat) (S:World→Prop) (n:Nat) (l:Array Bool) (a:Act) (w:World) (rs:List Nat):Prop:=
 ∀ i∈rs,wpOp P ops Q i (fun a' w'=>(i=st→wpAny P md ops Q n (l.setIfInBounds i true) a' w')∧(i≠st→S w'∧wpAnyT P md ops Q st S n (l.setIfInBounds i true) a' w')) a w
theorem AllReadyT.nil {n:Nat} {l:Array Bool} {a:Act} {w:World}:AllReadyT P md ops Q st S n l a w []:=fun _ h=>by cases h
theorem AllReadyT.cons {n:Nat} {l:Array Bool} {a:Act} {w:World} {i:Nat} {o:Oper} {rs:List Nat} (ho:ops[i]?=some o) (hne:(i == st)=false)
  (h:∀ K':Act→World→Prop,Shut (∀ a w,S w→(S w→wpAnyT P md ops Q st S n (l.setIfInBounds i true) a w)→K' a w)→if Region.wanted o (yielded ops a.tmps)=true then Oper.wp P o a w K' Q else K' (a.put o.dst undef) w)
  (hs:AllReadyT P md ops Q st S n l a w rs):AllReadyT P md ops Q st S n l a w (i :: rs):=fun j hj=>by
 rcases List.mem_cons.1 hj with rfl | hj
 ·exact wpOp_step ho (fun K' hK=>h K' (fun a w hS hW=>hK a w ⟨fun e=>by rw [e] at hne;simp at hne,fun _=>⟨hS,hW hS⟩⟩))
 exact hs j hj
theorem AllReadyT.cut {n:Nat} {l:Array Bool} {a:Act} {w:World} {o:Oper} (ho:ops[st]?=some o)
  (h:∀ K':Act→World→Prop,Shut (∀ a w,wpAny P md ops Q n (l.setIfInBounds st true) a w→K' a w)→if Region.wanted o (yielded ops a.tmps)=true then Oper.wp P o a w K' Q else K' (a.put o.dst undef) w):
  AllReadyT P md ops Q st S n l a w [st]:=fun j hj=>by
 obtain rfl:=List.mem_singleton.1 hj
 exact wpOp_step ho (fun K' hK=>h K' (fun a w hW=>hK a w ⟨fun _=>hW,fun h=>absurd rfl h⟩))
theorem wpAnyT_ready {rs:List Nat} {n:Nat} {l:Array Bool} {a:Act} {w:World} (hr:Region.ready md ops l=rs) (hne:rs≠[])
  (h:AllReadyT P md ops Q st S n l a w rs):wpAnyT P md ops Q st S (n+1) l a w:=⟨fun h0=>absurd (hr ▸ h0) hne,hr ▸ h⟩
theorem rdT {o : Oper} {n : Nat} {l : Array Bool} {a : Act} {w : World} (i : Nat) (hr : Region.ready md ops l = [i]) (ho : ops[i]? = some o) (hne : (i == st) = false)
    (h : ∀ K' : Act → World → Prop, Shut (∀ a w, S w → (S w → wpAnyT P md ops Q st S n (l.setIfInBounds i true) a w) → K' a w) → if Region.wanted o (yielded ops a.tmps) = true then Oper.wp P o a w K' Q else K' (a.put o.dst undef) w) : wpAnyT P md ops Q st S (n + 1) l a w :=
  wpAnyT_ready hr (by simp) (AllReadyT.cons ho hne h AllReadyT.nil)
theorem wp_region_cut_drew {id:Nat} {a:Act} {w:World} (hm:P.follows .mixedOrders=true) (hS:S w.drew)
  (h:S w.drew→wpAnyT P .any ops Q st S ops.size (Array.replicate ops.size false) a w.drew):(Code.region id ops true).wp P Q a w:=
 wp_region_any hm (wpAny_of_cut _ _ _ _ (h hS))
end
end Go.Att
