/- A group of texts: PFew05, PBoth05, PTold, PList17, PNums, Bq -/
import Derived.Test.YthpaifdfafjlcaaGreatSq
import Derived.Test.YthpaifdfafjlcaaGreatRefAll
import Derived.Test.YthpaifdfafjlcaaGreatRatAll
import Derived.Test.YthpaifdfafjlcaaGreatRef5All
import Derived.Test.YthpaifdfafjlcaaGreatRowAll
namespace Go.Proofs.YthpaifdfafjlcaaGreat
open Go.RowKit Go.Att

theorem few5_any {w:World} {va:Value} {xs:List Nat} (ha:RdL w va xs) (hl:xs.length≤1099511627776):
  Calls Tryz.prog 95 #[va] w (Gives w fun v' w'=>OwnL 115 w.heap.size w' v' (xs.take 8)):=by
 refine via fun R hR=>?_
 have HA:=Lib.hid ha
 obtain ⟨a,ca,rfl,hla,hma,_,_⟩:=ha.1.shape
 clear ha
 unfold maxLen at hma
 by_cases h:8 < xs.length
 ·have HT:Hid (RdL w (.slice a 8 ca) (xs.take 8)):=⟨RdI.take HA.out.1 rfl (by omega),HA.out.2.take 8⟩
  go_enter Tryz.func95,Tryz.ntmps95
  go_wp2_with fail
  refine (Copy_any HT.out (by rw [List.length_take];omega)).mono ?_
  rintro e w1 ⟨v1,rfl,b1,o1⟩
  have O1:=Lib.hid o1
  clear o1
  go_wp2
  exact hR.out _ _ (Gives.mk b1 O1.out)
 ·have E:Hid (xs.take 8=xs):=List.take_of_length_le (by omega)
  go_enter Tryz.func95,Tryz.ntmps95
  go_wp2_with fail
  refine (Copy_any HA.out (by omega)).mono ?_
  rintro e w1 ⟨v1,rfl,b1,o1⟩
  have O1:=Lib.hid o1
  clear o1
  go_wp2
  exact hR.out _ _ (Gives.mk b1 (by rw [E.out];exact O1.out))
open Go.RowKit Go.Att

set_option maxHeartbeats 2000000 in
set_option linter.unusedSimpArgs false in
theorem both_any {w:World} {v:Value} {s:Bool} {xs ys:List Nat} (hv:RdN w v s xs ys) (hlx:xs.length≤1000000000) (hly:ys.length≤1000000000):
  Calls Tryz.prog 69 #[v] w (Gives w fun v' w'=>∃ o1 o2,v'=.tuple #[o1,o2]∧OwnQ 115 w.heap.size w' o1 (qOf s xs ys)∧OwnP 4 w.heap.size w' o2 (qOf s xs ys)):=by
 refine via fun R hR=>?_
 generalize hr:qOf s xs ys=r at hR
 rw [qOf_eq] at hr
 have HRR:=Lib.hid hr
 obtain ⟨a,b,rfl,ha,hb⟩:=hv
 have HA:=Lib.hid ha
 have HB:=Lib.hid hb
 clear hr ha hb
 obtain ⟨w1,hw1,b1,c1,c2,c3,z1⟩:=box1RR w (.bool s) a b (.bool false) (.slice none 0 0) (.slice none 0 0) (.bool false) (.slice none 0 0) (.slice none 0 0) 73 49 81
 have C1:=Lib.hid c1
 have C2:=Lib.hid c2
 have C3:=Lib.hid c3
 have HW:=Lib.hid hw1
 clear c1 c2 c3 hw1
 go_enter Tryz.func69,Tryz.ntmps69
 go_wp2_with fail
 rw [← HW.out]
 clear HW
 have b2:=drew_ext w1
 have XE:=b2
 go_region_held3 (fun w'=>w'.cell? ⟨w.heap.size,0,none⟩=some (.bool s)∧w'.cell? ⟨w.heap.size,1,none⟩=some (a)∧w'.cell? ⟨w.heap.size,2,none⟩=some (b)) (exact C1.out.ext XE)
  (first
   | (go_at_call 95;refine (few5_any (HB.out.ext (Ext.trans b1 (Ext.trans b2 b3))) (by omega)).mono ?_;rintro e w4 ⟨v4,rfl,b4,o4⟩;have O4:=Lib.hid o4;clear o4;(first | have XE:=Ext.trans XE b4 | have XE:=Ext.trans (Ext.trans XE (Ext.alloc _ _)) b4))
   | (go_at_call 95;refine (few5_any (HA.out.ext (Ext.trans b1 b2)) (by omega)).mono ?_;rintro e w3 ⟨v3,rfl,b3,o3⟩;have O3:=Lib.hid o3;clear o3;(first | have XE:=Ext.trans XE b3 | have XE:=Ext.trans (Ext.trans XE (Ext.alloc _ _)) b3)))
 have hl4:(ys.take 8).length≤8:=by rw [List.length_take];omega
 have hl3:(xs.take 8).length≤8:=by rw [List.length_take];omega
 go_wp2_with fail
 refine (Of_any O4.out.rd (by omega)).mono ?_
 rintro e w5 ⟨v5,rfl,b5,o5⟩
 have O5:=Lib.hid o5
 clear o5
 obtain ⟨a5,c5,rfl,-,-,-,-⟩:=O5.out.rd.shape
 go_upto_if 17 with (fail)
 go_cut [5] (fun s5 wx=>Ext w5 wx∧Hid (∃ zs,RdL wx s5 zs∧nv zs=denOf ys∧zs.length≤8))
 case first=>
  by_cases h0:nv (ys.take 8)=0
  ·have hl:(((bitsOf (nv (ys.take 8))).length:Int) == 0)=true:=beqT (by rw [h0,bitsOf_zero];rfl)
   have he:denOf ys=1:=by unfold denOf;rw [if_pos h0]
   clear h0
   go_wp2_with fail
   go_meet
   exact ⟨Ext.alloc _ _,[1],lit1_rd _ _ (by decide),by rw [he];exact val_one _ _,by decide⟩
  ·have hl:(((bitsOf (nv (ys.take 8))).length:Int) == 0)=false:=beqF (by have:=bits_len_pos.2 (show 0 < nv (ys.take 8) by omega);omega)
   have he:denOf ys=nv (ys.take 8):=by unfold denOf;rw [if_neg h0]
   clear h0
   go_wp2_with fail
   go_meet
   exact ⟨Ext.refl _,_,O4.out.rd.ext b5,he.symm,hl4⟩
 case rest=>
  obtain ⟨b6,hh⟩:=hcut
  obtain ⟨zs,hz,hd,hlz⟩:=hh.out
  have HZ:=Lib.hid hz
  have HD:=Lib.hid hd
  clear hh hz hd O5
  have D1:=Lib.hid (C1.out.ext (Ext.trans b2 (Ext.trans b3 (Ext.trans b4 (Ext.trans b5 b6)))))
  have D2:=Lib.hid (C2.out.ext (Ext.trans b2 (Ext.trans b3 (Ext.trans b4 (Ext.trans b5 b6)))))
  have D3:=Lib.hid (C3.out.ext (Ext.trans b2 (Ext.trans b3 (Ext.trans b4 (Ext.trans b5 b6)))))
  have hs6:=Lib.hid (Below.size (Ext.trans b2 (Ext.trans b3 (Ext.trans b4 (Ext.trans b5 b6)))))
  have hsq:Hid (w.heap.size < wc.heap.size):=by have:=hs6.out;show _ < _;omega
  clear C1 C2 C3
  generalize wc=w6 at*
  go_upto_region 4 with (fail)
  go_cut [6,7] (fun s6 s7 wx=>s7=.bool true∧Ext w6 wx∧∃ B an cn ad cd,s6=.pointer (some ⟨B,0,none⟩)∧Hid (w6.heap.size≤B)∧Hid (Box3 wx B (.bool (decide (r.num < 0))) (.slice an (limbs r.num.natAbs).length cn) (.slice ad (dens r.den).length cd))∧Hid (OwnL 115 w6.heap.size wx (.slice an (limbs r.num.natAbs).length cn) (limbs r.num.natAbs))∧Hid (OwnL 115 w6.heap.size wx (.slice ad (dens r.den).length cd) (dens r.den)))
  case first=>
   have b7:=drew_ext w6
   refine wp_region_noPanic ?_
   refine wp_region_held_drew (S:=fun w'=>w'.cell? ⟨w.heap.size,0,none⟩=some (.bool s)∧w'.cell? ⟨w.heap.size,1,none⟩=some (a)∧w'.cell? ⟨w.heap.size,2,none⟩=some (b)) (by kernel_rfl) (D1.out.ext (by repeat (first | exact Ext.refl _ | refine Ext.trans ?_ (Ext.alloc _ _) | refine Ext.trans ?_ (drew_ext _) | refine Ext.trans ?_ ba | refine Ext.trans ?_ b11 | refine Ext.trans ?_ b10 | refine Ext.trans ?_ b9 | refine Ext.trans ?_ b8 | refine Ext.trans ?_ b7 | refine Ext.trans ?_ b6 | refine Ext.trans ?_ b5 | refine Ext.trans ?_ b4 | refine Ext.trans ?_ b3 | refine Ext.trans ?_ b2 | refine Ext.trans ?_ b1))) (fun hHeld=>?_)
   refine tkH 0 hHeld ?_
   simp only [jP,jA,jB,jC,jD,jE,jF]
   refine tkH 1 hHeld ?_
   simp only [jP,jA,jB,jC,jD,jE,jF]
   refine tkH 2 hHeld ?_
   simp only [jP,jA,jB,jC,jD,jE,jF]
   refine tkH 4 hHeld ?_
   simp only [jP,jA,jB,jC,jD,jE,jF]
   refine wpAnyH_ready (rs:=[3,10]) (by kernel_rfl) (by simp) ?_
   refine AllReadyH.cons (o:=_) rfl (fun K hK=>?_) (AllReadyH.cons (o:=_) rfl (fun K hK=>?_) AllReadyH.nil)
   ·skip
    go_simp
    go_at_call 97;refine (Copy_any (O3.out.rd.ext (by repeat (first | exact Ext.refl _ | refine Ext.trans ?_ (Ext.alloc _ _) | refine Ext.trans ?_ (drew_ext _) | refine Ext.trans ?_ ba | refine Ext.trans ?_ b11 | refine Ext.trans ?_ b10 | refine Ext.trans ?_ b9 | refine Ext.trans ?_ b8 | refine Ext.trans ?_ b7 | refine Ext.trans ?_ b6 | refine Ext.trans ?_ b5 | refine Ext.trans ?_ b4 | refine Ext.trans ?_ b3 | refine Ext.trans ?_ b2 | refine Ext.trans ?_ b1))) (by omega)).mono ?_;rintro e w8 ⟨v8,rfl,b8,o8⟩;have O8:=Lib.hid o8;clear o8
    go_wp2_with fail
    refine hK.out _ _ (D1.out.ext (by repeat (first | exact Ext.refl _ | refine Ext.trans ?_ (Ext.alloc _ _) | refine Ext.trans ?_ (drew_ext _) | refine Ext.trans ?_ ba | refine Ext.trans ?_ b11 | refine Ext.trans ?_ b10 | refine Ext.trans ?_ b9 | refine Ext.trans ?_ b8 | refine Ext.trans ?_ b7 | refine Ext.trans ?_ b6 | refine Ext.trans ?_ b5 | refine Ext.trans ?_ b4 | refine Ext.trans ?_ b3 | refine Ext.trans ?_ b2 | refine Ext.trans ?_ b1))) (fun hHeld=>?_)
    clear hK K
    try simp only [jP,jA,jB,jC,jD,jE,jF]
    refine wpAnyH_ready (rs:=[5,10]) (by kernel_rfl) (by simp) ?_
    refine AllReadyH.cons (o:=_) rfl (fun K hK=>?_) (AllReadyH.cons (o:=_) rfl (fun K hK=>?_) AllReadyH.nil)
    ·skip
     go_simp
     go_at_call 97;refine (Copy_any (HZ.out.ext (by repeat (first | exact Ext.refl _ | refine Ext.trans ?_ (Ext.alloc _ _) | refine Ext.trans ?_ (drew_ext _) | refine Ext.trans ?_ ba | refine Ext.trans ?_ b11 | refine Ext.trans ?_ b10 | refine Ext.trans ?_ b9 | refine Ext.trans ?_ b8 | refine Ext.trans ?_ b7 | refine Ext.trans ?_ b6 | refine Ext.trans ?_ b5 | refine Ext.trans ?_ b4 | refine Ext.trans ?_ b3 | refine Ext.trans ?_ b2 | refine Ext.trans ?_ b1))) (by omega)).mono ?_;rintro e w9 ⟨v9,rfl,b9,o9⟩;have O9:=Lib.hid o9;clear o9
     go_wp2_with fail
     refine hK.out _ _ (D1.out.ext (by repeat (first | exact Ext.refl _ | refine Ext.trans ?_ (Ext.alloc _ _) | refine Ext.trans ?_ (drew_ext _) | refine Ext.trans ?_ ba | refine Ext.trans ?_ b11 | refine Ext.trans ?_ b10 | refine Ext.trans ?_ b9 | refine Ext.trans ?_ b8 | refine Ext.trans ?_ b7 | refine Ext.trans ?_ b6 | refine Ext.trans ?_ b5 | refine Ext.trans ?_ b4 | refine Ext.trans ?_ b3 | refine Ext.trans ?_ b2 | refine Ext.trans ?_ b1))) (fun hHeld=>?_)
     clear hK K
     try simp only [jP,jA,jB,jC,jD,jE,jF]
     refine wpAnyH_ready (rs:=[6,10]) (by kernel_rfl) (by simp) ?_
     refine AllReadyH.cons (o:=_) rfl (fun K hK=>?_) (AllReadyH.cons (o:=_) rfl (fun K hK=>?_) AllReadyH.nil)
     ·skip
      go_simp
      go_at_call 96;refine (make_any (r:=r) (O8.out.rd.ext (by repeat (first | exact Ext.refl _ | refine Ext.trans ?_ (Ext.alloc _ _) | refine Ext.trans ?_ (drew_ext _) | refine Ext.trans ?_ ba | refine Ext.trans ?_ b11 | refine Ext.trans ?_ b10 | refine Ext.trans ?_ b9 | refine Ext.trans ?_ b8 | refine Ext.trans ?_ b7 | refine Ext.trans ?_ b6 | refine Ext.trans ?_ b5 | refine Ext.trans ?_ b4 | refine Ext.trans ?_ b3 | refine Ext.trans ?_ b2 | refine Ext.trans ?_ b1))) (O9.out.rd.ext (by repeat (first | exact Ext.refl _ | refine Ext.trans ?_ (Ext.alloc _ _) | refine Ext.trans ?_ (drew_ext _) | refine Ext.trans ?_ ba | refine Ext.trans ?_ b11 | refine Ext.trans ?_ b10 | refine Ext.trans ?_ b9 | refine Ext.trans ?_ b8 | refine Ext.trans ?_ b7 | refine Ext.trans ?_ b6 | refine Ext.trans ?_ b5 | refine Ext.trans ?_ b4 | refine Ext.trans ?_ b3 | refine Ext.trans ?_ b2 | refine Ext.trans ?_ b1))) (by omega) (by omega) (by rw [HD.out];exact denOf_ne ys) (by rw [HD.out];exact HRR.out)).mono ?_;rintro e w10 ⟨_,rfl,b10,_,rfl,n10,d10,rfl,on10,od10⟩;have ON10:=Lib.hid on10;have OD10:=Lib.hid od10;clear on10 od10;obtain ⟨an10,cn10,rfl,-,-,-,-⟩:=ON10.out.rd.1.shape;obtain ⟨ad10,cd10,rfl,-,-,-,-⟩:=OD10.out.rd.1.shape
      go_wp2_with fail
      refine hK.out _ _ (D1.out.ext (by repeat (first | exact Ext.refl _ | refine Ext.trans ?_ (Ext.alloc _ _) | refine Ext.trans ?_ (drew_ext _) | refine Ext.trans ?_ ba | refine Ext.trans ?_ b11 | refine Ext.trans ?_ b10 | refine Ext.trans ?_ b9 | refine Ext.trans ?_ b8 | refine Ext.trans ?_ b7 | refine Ext.trans ?_ b6 | refine Ext.trans ?_ b5 | refine Ext.trans ?_ b4 | refine Ext.trans ?_ b3 | refine Ext.trans ?_ b2 | refine Ext.trans ?_ b1))) (fun hHeld=>?_)
      clear hK K
      try simp only [jP,jA,jB,jC,jD,jE,jF]
      refine tkH 7 hHeld ?_
      simp only [jP,jA,jB,jC,jD,jE,jF]
      refine tkH 8 hHeld ?_
      simp only [jP,jA,jB,jC,jD,jE,jF]
      refine tkH 9 hHeld ?_
      simp only [jP,jA,jB,jC,jD,jE,jF]
      refine rdH 10 (by kernel_rfl) rfl (fun K hK=>?_)
      go_simp
      refine hK.out _ _ (D1.out.ext (by repeat (first | exact Ext.refl _ | refine Ext.trans ?_ (Ext.alloc _ _) | refine Ext.trans ?_ (drew_ext _) | refine Ext.trans ?_ ba | refine Ext.trans ?_ b11 | refine Ext.trans ?_ b10 | refine Ext.trans ?_ b9 | refine Ext.trans ?_ b8 | refine Ext.trans ?_ b7 | refine Ext.trans ?_ b6 | refine Ext.trans ?_ b5 | refine Ext.trans ?_ b4 | refine Ext.trans ?_ b3 | refine Ext.trans ?_ b2 | refine Ext.trans ?_ b1))) (fun hHeld=>?_)
      clear hK K
      try simp only [jP,jA,jB,jC,jD,jE,jF]
      obtain ⟨wa,hwa,ba,ra,za⟩:=boxR w10 (.bool false) (.slice none 0 0) (.slice none 0 0) 49
      rw [← hwa] at hHeld ⊢
      have RA:Hid (Room3 wa w10.heap.size):=ra
      have hsz:Hid (w6.heap.size≤w10.heap.size):=Below.size (by repeat (first | exact Ext.refl _ | refine Ext.trans ?_ (Ext.alloc _ _) | refine Ext.trans ?_ (drew_ext _) | refine Ext.trans ?_ ba | refine Ext.trans ?_ b11 | refine Ext.trans ?_ b10 | refine Ext.trans ?_ b9 | refine Ext.trans ?_ b8 | refine Ext.trans ?_ b7 | refine Ext.trans ?_ b6 | refine Ext.trans ?_ b5 | refine Ext.trans ?_ b4 | refine Ext.trans ?_ b3 | refine Ext.trans ?_ b2 | refine Ext.trans ?_ b1))
      have za:wa.heap.size=w10.heap.size+1:=za
      clear hwa ra
      obtain ⟨_,_,_,j0,j1,j2,g0,g1,g2⟩:=(RA.out.ext (show Ext wa wa from (by repeat (first | exact Ext.refl _ | refine Ext.trans ?_ (Ext.alloc _ _) | refine Ext.trans ?_ (drew_ext _) | refine Ext.trans ?_ ba | refine Ext.trans ?_ b11 | refine Ext.trans ?_ b10 | refine Ext.trans ?_ b9 | refine Ext.trans ?_ b8 | refine Ext.trans ?_ b7 | refine Ext.trans ?_ b6 | refine Ext.trans ?_ b5 | refine Ext.trans ?_ b4 | refine Ext.trans ?_ b3 | refine Ext.trans ?_ b2 | refine Ext.trans ?_ b1)))).cells
      refine rdH 11 (by kernel_rfl) rfl (fun K hK=>?_)
      go_simp
      refine hK.out _ _ ((D1.out.ext (show Ext w6 wa from (by repeat (first | exact Ext.refl _ | refine Ext.trans ?_ (Ext.alloc _ _) | refine Ext.trans ?_ (drew_ext _) | refine Ext.trans ?_ ba | refine Ext.trans ?_ b11 | refine Ext.trans ?_ b10 | refine Ext.trans ?_ b9 | refine Ext.trans ?_ b8 | refine Ext.trans ?_ b7 | refine Ext.trans ?_ b6 | refine Ext.trans ?_ b5 | refine Ext.trans ?_ b4 | refine Ext.trans ?_ b3 | refine Ext.trans ?_ b2 | refine Ext.trans ?_ b1)))).put (c:=w10.heap.size) (by have:=hsz.out;have:=hsq.out;omega) _ _ _) (fun hHeld=>?_)
      clear hK K
      try simp only [jP,jA,jB,jC,jD,jE,jF]
      refine tkH 12 hHeld ?_
      simp only [jP,jA,jB,jC,jD,jE,jF]
      refine wpAnyH_done (by kernel_rfl) ?_ _
      refine NoPanic.normal ?_
      have hd6:w6.drew.heap.size=w6.heap.size:=rfl
      have h8:=b8.size
      have h9:=b9.size
      have h10:=b10.size
      have ha:=ba.size
      have hda:wa.drew.heap.size=wa.heap.size:=rfl
      go_wp2_with fail
      go_meet
      exact ⟨rfl,put3_below (by repeat (first | exact Ext.refl _ | refine Ext.trans ?_ (Ext.alloc _ _) | refine Ext.trans ?_ (drew_ext _) | refine Ext.trans ?_ ba | refine Ext.trans ?_ b11 | refine Ext.trans ?_ b10 | refine Ext.trans ?_ b9 | refine Ext.trans ?_ b8 | refine Ext.trans ?_ b7 | refine Ext.trans ?_ b6 | refine Ext.trans ?_ b5 | refine Ext.trans ?_ b4 | refine Ext.trans ?_ b3 | refine Ext.trans ?_ b2 | refine Ext.trans ?_ b1)) hsz.out _ _ _,_,_,_,_,_,rfl,hsz,Box3.put_at (RA.out.ext (by repeat (first | exact Ext.refl _ | refine Ext.trans ?_ (Ext.alloc _ _) | refine Ext.trans ?_ (drew_ext _) | refine Ext.trans ?_ ba | refine Ext.trans ?_ b11 | refine Ext.trans ?_ b10 | refine Ext.trans ?_ b9 | refine Ext.trans ?_ b8 | refine Ext.trans ?_ b7 | refine Ext.trans ?_ b6 | refine Ext.trans ?_ b5 | refine Ext.trans ?_ b4 | refine Ext.trans ?_ b3 | refine Ext.trans ?_ b2 | refine Ext.trans ?_ b1))) _ _ _,(ON10.out.put_new (by repeat (first | exact Ext.refl _ | refine Ext.trans ?_ (Ext.alloc _ _) | refine Ext.trans ?_ (drew_ext _) | refine Ext.trans ?_ ba | refine Ext.trans ?_ b11 | refine Ext.trans ?_ b10 | refine Ext.trans ?_ b9 | refine Ext.trans ?_ b8 | refine Ext.trans ?_ b7 | refine Ext.trans ?_ b6 | refine Ext.trans ?_ b5 | refine Ext.trans ?_ b4 | refine Ext.trans ?_ b3 | refine Ext.trans ?_ b2 | refine Ext.trans ?_ b1)) (by omega) _ _ _).mono (by omega),(OD10.out.put_new (by repeat (first | exact Ext.refl _ | refine Ext.trans ?_ (Ext.alloc _ _) | refine Ext.trans ?_ (drew_ext _) | refine Ext.trans ?_ ba | refine Ext.trans ?_ b11 | refine Ext.trans ?_ b10 | refine Ext.trans ?_ b9 | refine Ext.trans ?_ b8 | refine Ext.trans ?_ b7 | refine Ext.trans ?_ b6 | refine Ext.trans ?_ b5 | refine Ext.trans ?_ b4 | refine Ext.trans ?_ b3 | refine Ext.trans ?_ b2 | refine Ext.trans ?_ b1)) (by omega) _ _ _).mono (by omega)⟩
     ·skip
      go_simp
      refine hK.out _ _ (D1.out.ext (by repeat (first | exact Ext.refl _ | refine Ext.trans ?_ (Ext.alloc _ _) | refine Ext.trans ?_ (drew_ext _) | refine Ext.trans ?_ ba | refine Ext.trans ?_ b11 | refine Ext.trans ?_ b10 | refine Ext.trans ?_ b9 | refine Ext.trans ?_ b8 | refine Ext.trans ?_ b7 | refine Ext.trans ?_ b6 | refine Ext.trans ?_ b5 | refine Ext.trans ?_ b4 | refine Ext.trans ?_ b3 | refine Ext.trans ?_ b2 | refine Ext.trans ?_ b1))) (fun hHeld=>?_)
      clear hK K
      try simp only [jP,jA,jB,jC,jD,jE,jF]
      obtain ⟨wa,hwa,ba,ra,za⟩:=boxR w9 (.bool false) (.slice none 0 0) (.slice none 0 0) 49
      rw [← hwa] at hHeld ⊢
      have RA:Hid (Room3 wa w9.heap.size):=ra
      have hsz:Hid (w6.heap.size≤w9.heap.size):=Below.size (by repeat (first | exact Ext.refl _ | refine Ext.trans ?_ (Ext.alloc _ _) | refine Ext.trans ?_ (drew_ext _) | refine Ext.trans ?_ ba | refine Ext.trans ?_ b11 | refine Ext.trans ?_ b10 | refine Ext.trans ?_ b9 | refine Ext.trans ?_ b8 | refine Ext.trans ?_ b7 | refine Ext.trans ?_ b6 | refine Ext.trans ?_ b5 | refine Ext.trans ?_ b4 | refine Ext.trans ?_ b3 | refine Ext.trans ?_ b2 | refine Ext.trans ?_ b1))
      have za:wa.heap.size=w9.heap.size+1:=za
      clear hwa ra
      refine rdH 6 (by kernel_rfl) rfl (fun K hK=>?_)
      go_simp
      go_at_call 96;refine (make_any (r:=r) (O8.out.rd.ext (by repeat (first | exact Ext.refl _ | refine Ext.trans ?_ (Ext.alloc _ _) | refine Ext.trans ?_ (drew_ext _) | refine Ext.trans ?_ ba | refine Ext.trans ?_ b11 | refine Ext.trans ?_ b10 | refine Ext.trans ?_ b9 | refine Ext.trans ?_ b8 | refine Ext.trans ?_ b7 | refine Ext.trans ?_ b6 | refine Ext.trans ?_ b5 | refine Ext.trans ?_ b4 | refine Ext.trans ?_ b3 | refine Ext.trans ?_ b2 | refine Ext.trans ?_ b1))) (O9.out.rd.ext (by repeat (first | exact Ext.refl _ | refine Ext.trans ?_ (Ext.alloc _ _) | refine Ext.trans ?_ (drew_ext _) | refine Ext.trans ?_ ba | refine Ext.trans ?_ b11 | refine Ext.trans ?_ b10 | refine Ext.trans ?_ b9 | refine Ext.trans ?_ b8 | refine Ext.trans ?_ b7 | refine Ext.trans ?_ b6 | refine Ext.trans ?_ b5 | refine Ext.trans ?_ b4 | refine Ext.trans ?_ b3 | refine Ext.trans ?_ b2 | refine Ext.trans ?_ b1))) (by omega) (by omega) (by rw [HD.out];exact denOf_ne ys) (by rw [HD.out];exact HRR.out)).mono ?_;rintro e w10 ⟨_,rfl,b10,_,rfl,n10,d10,rfl,on10,od10⟩;have ON10:=Lib.hid on10;have OD10:=Lib.hid od10;clear on10 od10;obtain ⟨an10,cn10,rfl,-,-,-,-⟩:=ON10.out.rd.1.shape;obtain ⟨ad10,cd10,rfl,-,-,-,-⟩:=OD10.out.rd.1.shape
      go_wp2_with fail
      refine hK.out _ _ (D1.out.ext (by repeat (first | exact Ext.refl _ | refine Ext.trans ?_ (Ext.alloc _ _) | refine Ext.trans ?_ (drew_ext _) | refine Ext.trans ?_ ba | refine Ext.trans ?_ b11 | refine Ext.trans ?_ b10 | refine Ext.trans ?_ b9 | refine Ext.trans ?_ b8 | refine Ext.trans ?_ b7 | refine Ext.trans ?_ b6 | refine Ext.trans ?_ b5 | refine Ext.trans ?_ b4 | refine Ext.trans ?_ b3 | refine Ext.trans ?_ b2 | refine Ext.trans ?_ b1))) (fun hHeld=>?_)
      clear hK K
      try simp only [jP,jA,jB,jC,jD,jE,jF]
      refine tkH 7 hHeld ?_
      simp only [jP,jA,jB,jC,jD,jE,jF]
      refine tkH 8 hHeld ?_
      simp only [jP,jA,jB,jC,jD,jE,jF]
      refine tkH 9 hHeld ?_
      simp only [jP,jA,jB,jC,jD,jE,jF]
      obtain ⟨_,_,_,j0,j1,j2,g0,g1,g2⟩:=(RA.out.ext (show Ext wa w10 from (by repeat (first | exact Ext.refl _ | refine Ext.trans ?_ (Ext.alloc _ _) | refine Ext.trans ?_ (drew_ext _) | refine Ext.trans ?_ ba | refine Ext.trans ?_ b11 | refine Ext.trans ?_ b10 | refine Ext.trans ?_ b9 | refine Ext.trans ?_ b8 | refine Ext.trans ?_ b7 | refine Ext.trans ?_ b6 | refine Ext.trans ?_ b5 | refine Ext.trans ?_ b4 | refine Ext.trans ?_ b3 | refine Ext.trans ?_ b2 | refine Ext.trans ?_ b1)))).cells
      refine rdH 11 (by kernel_rfl) rfl (fun K hK=>?_)
      go_simp
      refine hK.out _ _ ((D1.out.ext (show Ext w6 w10 from (by repeat (first | exact Ext.refl _ | refine Ext.trans ?_ (Ext.alloc _ _) | refine Ext.trans ?_ (drew_ext _) | refine Ext.trans ?_ ba | refine Ext.trans ?_ b11 | refine Ext.trans ?_ b10 | refine Ext.trans ?_ b9 | refine Ext.trans ?_ b8 | refine Ext.trans ?_ b7 | refine Ext.trans ?_ b6 | refine Ext.trans ?_ b5 | refine Ext.trans ?_ b4 | refine Ext.trans ?_ b3 | refine Ext.trans ?_ b2 | refine Ext.trans ?_ b1)))).put (c:=w9.heap.size) (by have:=hsz.out;have:=hsq.out;omega) _ _ _) (fun hHeld=>?_)
      clear hK K
      try simp only [jP,jA,jB,jC,jD,jE,jF]
      refine tkH 12 hHeld ?_
      simp only [jP,jA,jB,jC,jD,jE,jF]
      refine wpAnyH_done (by kernel_rfl) ?_ _
      refine NoPanic.normal ?_
      have hd6:w6.drew.heap.size=w6.heap.size:=rfl
      have h8:=b8.size
      have h9:=b9.size
      have h10:=b10.size
      have ha:=ba.size
      have hda:wa.drew.heap.size=wa.heap.size:=rfl
      go_wp2_with fail
      go_meet
      exact ⟨rfl,put3_below (by repeat (first | exact Ext.refl _ | refine Ext.trans ?_ (Ext.alloc _ _) | refine Ext.trans ?_ (drew_ext _) | refine Ext.trans ?_ ba | refine Ext.trans ?_ b11 | refine Ext.trans ?_ b10 | refine Ext.trans ?_ b9 | refine Ext.trans ?_ b8 | refine Ext.trans ?_ b7 | refine Ext.trans ?_ b6 | refine Ext.trans ?_ b5 | refine Ext.trans ?_ b4 | refine Ext.trans ?_ b3 | refine Ext.trans ?_ b2 | refine Ext.trans ?_ b1)) hsz.out _ _ _,_,_,_,_,_,rfl,hsz,Box3.put_at (RA.out.ext (by repeat (first | exact Ext.refl _ | refine Ext.trans ?_ (Ext.alloc _ _) | refine Ext.trans ?_ (drew_ext _) | refine Ext.trans ?_ ba | refine Ext.trans ?_ b11 | refine Ext.trans ?_ b10 | refine Ext.trans ?_ b9 | refine Ext.trans ?_ b8 | refine Ext.trans ?_ b7 | refine Ext.trans ?_ b6 | refine Ext.trans ?_ b5 | refine Ext.trans ?_ b4 | refine Ext.trans ?_ b3 | refine Ext.trans ?_ b2 | refine Ext.trans ?_ b1))) _ _ _,(ON10.out.put_new (by repeat (first | exact Ext.refl _ | refine Ext.trans ?_ (Ext.alloc _ _) | refine Ext.trans ?_ (drew_ext _) | refine Ext.trans ?_ ba | refine Ext.trans ?_ b11 | refine Ext.trans ?_ b10 | refine Ext.trans ?_ b9 | refine Ext.trans ?_ b8 | refine Ext.trans ?_ b7 | refine Ext.trans ?_ b6 | refine Ext.trans ?_ b5 | refine Ext.trans ?_ b4 | refine Ext.trans ?_ b3 | refine Ext.trans ?_ b2 | refine Ext.trans ?_ b1)) (by omega) _ _ _).mono (by omega),(OD10.out.put_new (by repeat (first | exact Ext.refl _ | refine Ext.trans ?_ (Ext.alloc _ _) | refine Ext.trans ?_ (drew_ext _) | refine Ext.trans ?_ ba | refine Ext.trans ?_ b11 | refine Ext.trans ?_ b10 | refine Ext.trans ?_ b9 | refine Ext.trans ?_ b8 | refine Ext.trans ?_ b7 | refine Ext.trans ?_ b6 | refine Ext.trans ?_ b5 | refine Ext.trans ?_ b4 | refine Ext.trans ?_ b3 | refine Ext.trans ?_ b2 | refine Ext.trans ?_ b1)) (by omega) _ _ _).mono (by omega)⟩
    ·skip
     go_simp
     refine hK.out _ _ (D1.out.ext (by repeat (first | exact Ext.refl _ | refine Ext.trans ?_ (Ext.alloc _ _) | refine Ext.trans ?_ (drew_ext _) | refine Ext.trans ?_ ba | refine Ext.trans ?_ b11 | refine Ext.trans ?_ b10 | refine Ext.trans ?_ b9 | refine Ext.trans ?_ b8 | refine Ext.trans ?_ b7 | refine Ext.trans ?_ b6 | refine Ext.trans ?_ b5 | refine Ext.trans ?_ b4 | refine Ext.trans ?_ b3 | refine Ext.trans ?_ b2 | refine Ext.trans ?_ b1))) (fun hHeld=>?_)
     clear hK K
     try simp only [jP,jA,jB,jC,jD,jE,jF]
     obtain ⟨wa,hwa,ba,ra,za⟩:=boxR w8 (.bool false) (.slice none 0 0) (.slice none 0 0) 49
     rw [← hwa] at hHeld ⊢
     have RA:Hid (Room3 wa w8.heap.size):=ra
     have hsz:Hid (w6.heap.size≤w8.heap.size):=Below.size (by repeat (first | exact Ext.refl _ | refine Ext.trans ?_ (Ext.alloc _ _) | refine Ext.trans ?_ (drew_ext _) | refine Ext.trans ?_ ba | refine Ext.trans ?_ b11 | refine Ext.trans ?_ b10 | refine Ext.trans ?_ b9 | refine Ext.trans ?_ b8 | refine Ext.trans ?_ b7 | refine Ext.trans ?_ b6 | refine Ext.trans ?_ b5 | refine Ext.trans ?_ b4 | refine Ext.trans ?_ b3 | refine Ext.trans ?_ b2 | refine Ext.trans ?_ b1))
     have za:wa.heap.size=w8.heap.size+1:=za
     clear hwa ra
     refine rdH 5 (by kernel_rfl) rfl (fun K hK=>?_)
     go_simp
     go_at_call 97;refine (Copy_any (HZ.out.ext (by repeat (first | exact Ext.refl _ | refine Ext.trans ?_ (Ext.alloc _ _) | refine Ext.trans ?_ (drew_ext _) | refine Ext.trans ?_ ba | refine Ext.trans ?_ b11 | refine Ext.trans ?_ b10 | refine Ext.trans ?_ b9 | refine Ext.trans ?_ b8 | refine Ext.trans ?_ b7 | refine Ext.trans ?_ b6 | refine Ext.trans ?_ b5 | refine Ext.trans ?_ b4 | refine Ext.trans ?_ b3 | refine Ext.trans ?_ b2 | refine Ext.trans ?_ b1))) (by omega)).mono ?_;rintro e w9 ⟨v9,rfl,b9,o9⟩;have O9:=Lib.hid o9;clear o9
     go_wp2_with fail
     refine hK.out _ _ (D1.out.ext (by repeat (first | exact Ext.refl _ | refine Ext.trans ?_ (Ext.alloc _ _) | refine Ext.trans ?_ (drew_ext _) | refine Ext.trans ?_ ba | refine Ext.trans ?_ b11 | refine Ext.trans ?_ b10 | refine Ext.trans ?_ b9 | refine Ext.trans ?_ b8 | refine Ext.trans ?_ b7 | refine Ext.trans ?_ b6 | refine Ext.trans ?_ b5 | refine Ext.trans ?_ b4 | refine Ext.trans ?_ b3 | refine Ext.trans ?_ b2 | refine Ext.trans ?_ b1))) (fun hHeld=>?_)
     clear hK K
     try simp only [jP,jA,jB,jC,jD,jE,jF]
     refine rdH 6 (by kernel_rfl) rfl (fun K hK=>?_)
     go_simp
     go_at_call 96;refine (make_any (r:=r) (O8.out.rd.ext (by repeat (first | exact Ext.refl _ | refine Ext.trans ?_ (Ext.alloc _ _) | refine Ext.trans ?_ (drew_ext _) | refine Ext.trans ?_ ba | refine Ext.trans ?_ b11 | refine Ext.trans ?_ b10 | refine Ext.trans ?_ b9 | refine Ext.trans ?_ b8 | refine Ext.trans ?_ b7 | refine Ext.trans ?_ b6 | refine Ext.trans ?_ b5 | refine Ext.trans ?_ b4 | refine Ext.trans ?_ b3 | refine Ext.trans ?_ b2 | refine Ext.trans ?_ b1))) (O9.out.rd.ext (by repeat (first | exact Ext.refl _ | refine Ext.trans ?_ (Ext.alloc _ _) | refine Ext.trans ?_ (drew_ext _) | refine Ext.trans ?_ ba | refine Ext.trans ?_ b11 | refine Ext.trans ?_ b10 | refine Ext.trans ?_ b9 | refine Ext.trans ?_ b8 | refine Ext.trans ?_ b7 | refine Ext.trans ?_ b6 | refine Ext.trans ?_ b5 | refine Ext.trans ?_ b4 | refine Ext.trans ?_ b3 | refine Ext.trans ?_ b2 | refine Ext.trans ?_ b1))) (by omega) (by omega) (by rw [HD.out];exact denOf_ne ys) (by rw [HD.out];exact HRR.out)).mono ?_;rintro e w10 ⟨_,rfl,b10,_,rfl,n10,d10,rfl,on10,od10⟩;have ON10:=Lib.hid on10;have OD10:=Lib.hid od10;clear on10 od10;obtain ⟨an10,cn10,rfl,-,-,-,-⟩:=ON10.out.rd.1.shape;obtain ⟨ad10,cd10,rfl,-,-,-,-⟩:=OD10.out.rd.1.shape
     go_wp2_with fail
     refine hK.out _ _ (D1.out.ext (by repeat (first | exact Ext.refl _ | refine Ext.trans ?_ (Ext.alloc _ _) | refine Ext.trans ?_ (drew_ext _) | refine Ext.trans ?_ ba | refine Ext.trans ?_ b11 | refine Ext.trans ?_ b10 | refine Ext.trans ?_ b9 | refine Ext.trans ?_ b8 | refine Ext.trans ?_ b7 | refine Ext.trans ?_ b6 | refine Ext.trans ?_ b5 | refine Ext.trans ?_ b4 | refine Ext.trans ?_ b3 | refine Ext.trans ?_ b2 | refine Ext.trans ?_ b1))) (fun hHeld=>?_)
     clear hK K
     try simp only [jP,jA,jB,jC,jD,jE,jF]
     refine tkH 7 hHeld ?_
     simp only [jP,jA,jB,jC,jD,jE,jF]
     refine tkH 8 hHeld ?_
     simp only [jP,jA,jB,jC,jD,jE,jF]
     refine tkH 9 hHeld ?_
     simp only [jP,jA,jB,jC,jD,jE,jF]
     obtain ⟨_,_,_,j0,j1,j2,g0,g1,g2⟩:=(RA.out.ext (show Ext wa w10 from (by repeat (first | exact Ext.refl _ | refine Ext.trans ?_ (Ext.alloc _ _) | refine Ext.trans ?_ (drew_ext _) | refine Ext.trans ?_ ba | refine Ext.trans ?_ b11 | refine Ext.trans ?_ b10 | refine Ext.trans ?_ b9 | refine Ext.trans ?_ b8 | refine Ext.trans ?_ b7 | refine Ext.trans ?_ b6 | refine Ext.trans ?_ b5 | refine Ext.trans ?_ b4 | refine Ext.trans ?_ b3 | refine Ext.trans ?_ b2 | refine Ext.trans ?_ b1)))).cells
     refine rdH 11 (by kernel_rfl) rfl (fun K hK=>?_)
     go_simp
     refine hK.out _ _ ((D1.out.ext (show Ext w6 w10 from (by repeat (first | exact Ext.refl _ | refine Ext.trans ?_ (Ext.alloc _ _) | refine Ext.trans ?_ (drew_ext _) | refine Ext.trans ?_ ba | refine Ext.trans ?_ b11 | refine Ext.trans ?_ b10 | refine Ext.trans ?_ b9 | refine Ext.trans ?_ b8 | refine Ext.trans ?_ b7 | refine Ext.trans ?_ b6 | refine Ext.trans ?_ b5 | refine Ext.trans ?_ b4 | refine Ext.trans ?_ b3 | refine Ext.trans ?_ b2 | refine Ext.trans ?_ b1)))).put (c:=w8.heap.size) (by have:=hsz.out;have:=hsq.out;omega) _ _ _) (fun hHeld=>?_)
     clear hK K
     try simp only [jP,jA,jB,jC,jD,jE,jF]
     refine tkH 12 hHeld ?_
     simp only [jP,jA,jB,jC,jD,jE,jF]
     refine wpAnyH_done (by kernel_rfl) ?_ _
     refine NoPanic.normal ?_
     have hd6:w6.drew.heap.size=w6.heap.size:=rfl
     have h8:=b8.size
     have h9:=b9.size
     have h10:=b10.size
     have ha:=ba.size
     have hda:wa.drew.heap.size=wa.heap.size:=rfl
     go_wp2_with fail
     go_meet
     exact ⟨rfl,put3_below (by repeat (first | exact Ext.refl _ | refine Ext.trans ?_ (Ext.alloc _ _) | refine Ext.trans ?_ (drew_ext _) | refine Ext.trans ?_ ba | refine Ext.trans ?_ b11 | refine Ext.trans ?_ b10 | refine Ext.trans ?_ b9 | refine Ext.trans ?_ b8 | refine Ext.trans ?_ b7 | refine Ext.trans ?_ b6 | refine Ext.trans ?_ b5 | refine Ext.trans ?_ b4 | refine Ext.trans ?_ b3 | refine Ext.trans ?_ b2 | refine Ext.trans ?_ b1)) hsz.out _ _ _,_,_,_,_,_,rfl,hsz,Box3.put_at (RA.out.ext (by repeat (first | exact Ext.refl _ | refine Ext.trans ?_ (Ext.alloc _ _) | refine Ext.trans ?_ (drew_ext _) | refine Ext.trans ?_ ba | refine Ext.trans ?_ b11 | refine Ext.trans ?_ b10 | refine Ext.trans ?_ b9 | refine Ext.trans ?_ b8 | refine Ext.trans ?_ b7 | refine Ext.trans ?_ b6 | refine Ext.trans ?_ b5 | refine Ext.trans ?_ b4 | refine Ext.trans ?_ b3 | refine Ext.trans ?_ b2 | refine Ext.trans ?_ b1))) _ _ _,(ON10.out.put_new (by repeat (first | exact Ext.refl _ | refine Ext.trans ?_ (Ext.alloc _ _) | refine Ext.trans ?_ (drew_ext _) | refine Ext.trans ?_ ba | refine Ext.trans ?_ b11 | refine Ext.trans ?_ b10 | refine Ext.trans ?_ b9 | refine Ext.trans ?_ b8 | refine Ext.trans ?_ b7 | refine Ext.trans ?_ b6 | refine Ext.trans ?_ b5 | refine Ext.trans ?_ b4 | refine Ext.trans ?_ b3 | refine Ext.trans ?_ b2 | refine Ext.trans ?_ b1)) (by omega) _ _ _).mono (by omega),(OD10.out.put_new (by repeat (first | exact Ext.refl _ | refine Ext.trans ?_ (Ext.alloc _ _) | refine Ext.trans ?_ (drew_ext _) | refine Ext.trans ?_ ba | refine Ext.trans ?_ b11 | refine Ext.trans ?_ b10 | refine Ext.trans ?_ b9 | refine Ext.trans ?_ b8 | refine Ext.trans ?_ b7 | refine Ext.trans ?_ b6 | refine Ext.trans ?_ b5 | refine Ext.trans ?_ b4 | refine Ext.trans ?_ b3 | refine Ext.trans ?_ b2 | refine Ext.trans ?_ b1)) (by omega) _ _ _).mono (by omega)⟩
   ·skip
    go_simp
    refine hK.out _ _ (D1.out.ext (by repeat (first | exact Ext.refl _ | refine Ext.trans ?_ (Ext.alloc _ _) | refine Ext.trans ?_ (drew_ext _) | refine Ext.trans ?_ ba | refine Ext.trans ?_ b11 | refine Ext.trans ?_ b10 | refine Ext.trans ?_ b9 | refine Ext.trans ?_ b8 | refine Ext.trans ?_ b7 | refine Ext.trans ?_ b6 | refine Ext.trans ?_ b5 | refine Ext.trans ?_ b4 | refine Ext.trans ?_ b3 | refine Ext.trans ?_ b2 | refine Ext.trans ?_ b1))) (fun hHeld=>?_)
    clear hK K
    try simp only [jP,jA,jB,jC,jD,jE,jF]
    obtain ⟨wa,hwa,ba,ra,za⟩:=boxR w6 (.bool false) (.slice none 0 0) (.slice none 0 0) 49
    rw [← hwa] at hHeld ⊢
    have RA:Hid (Room3 wa w6.heap.size):=ra
    have hsz:Hid (w6.heap.size≤w6.heap.size):=Below.size (by repeat (first | exact Ext.refl _ | refine Ext.trans ?_ (Ext.alloc _ _) | refine Ext.trans ?_ (drew_ext _) | refine Ext.trans ?_ ba | refine Ext.trans ?_ b11 | refine Ext.trans ?_ b10 | refine Ext.trans ?_ b9 | refine Ext.trans ?_ b8 | refine Ext.trans ?_ b7 | refine Ext.trans ?_ b6 | refine Ext.trans ?_ b5 | refine Ext.trans ?_ b4 | refine Ext.trans ?_ b3 | refine Ext.trans ?_ b2 | refine Ext.trans ?_ b1))
    have za:wa.heap.size=w6.heap.size+1:=za
    clear hwa ra
    refine rdH 3 (by kernel_rfl) rfl (fun K hK=>?_)
    go_simp
    go_at_call 97;refine (Copy_any (O3.out.rd.ext (by repeat (first | exact Ext.refl _ | refine Ext.trans ?_ (Ext.alloc _ _) | refine Ext.trans ?_ (drew_ext _) | refine Ext.trans ?_ ba | refine Ext.trans ?_ b11 | refine Ext.trans ?_ b10 | refine Ext.trans ?_ b9 | refine Ext.trans ?_ b8 | refine Ext.trans ?_ b7 | refine Ext.trans ?_ b6 | refine Ext.trans ?_ b5 | refine Ext.trans ?_ b4 | refine Ext.trans ?_ b3 | refine Ext.trans ?_ b2 | refine Ext.trans ?_ b1))) (by omega)).mono ?_;rintro e w8 ⟨v8,rfl,b8,o8⟩;have O8:=Lib.hid o8;clear o8
    go_wp2_with fail
    refine hK.out _ _ (D1.out.ext (by repeat (first | exact Ext.refl _ | refine Ext.trans ?_ (Ext.alloc _ _) | refine Ext.trans ?_ (drew_ext _) | refine Ext.trans ?_ ba | refine Ext.trans ?_ b11 | refine Ext.trans ?_ b10 | refine Ext.trans ?_ b9 | refine Ext.trans ?_ b8 | refine Ext.trans ?_ b7 | refine Ext.trans ?_ b6 | refine Ext.trans ?_ b5 | refine Ext.trans ?_ b4 | refine Ext.trans ?_ b3 | refine Ext.trans ?_ b2 | refine Ext.trans ?_ b1))) (fun hHeld=>?_)
    clear hK K
    try simp only [jP,jA,jB,jC,jD,jE,jF]
    refine rdH 5 (by kernel_rfl) rfl (fun K hK=>?_)
    go_simp
    go_at_call 97;refine (Copy_any (HZ.out.ext (by repeat (first | exact Ext.refl _ | refine Ext.trans ?_ (Ext.alloc _ _) | refine Ext.trans ?_ (drew_ext _) | refine Ext.trans ?_ ba | refine Ext.trans ?_ b11 | refine Ext.trans ?_ b10 | refine Ext.trans ?_ b9 | refine Ext.trans ?_ b8 | refine Ext.trans ?_ b7 | refine Ext.trans ?_ b6 | refine Ext.trans ?_ b5 | refine Ext.trans ?_ b4 | refine Ext.trans ?_ b3 | refine Ext.trans ?_ b2 | refine Ext.trans ?_ b1))) (by omega)).mono ?_;rintro e w9 ⟨v9,rfl,b9,o9⟩;have O9:=Lib.hid o9;clear o9
    go_wp2_with fail
    refine hK.out _ _ (D1.out.ext (by repeat (first | exact Ext.refl _ | refine Ext.trans ?_ (Ext.alloc _ _) | refine Ext.trans ?_ (drew_ext _) | refine Ext.trans ?_ ba | refine Ext.trans ?_ b11 | refine Ext.trans ?_ b10 | refine Ext.trans ?_ b9 | refine Ext.trans ?_ b8 | refine Ext.trans ?_ b7 | refine Ext.trans ?_ b6 | refine Ext.trans ?_ b5 | refine Ext.trans ?_ b4 | refine Ext.trans ?_ b3 | refine Ext.trans ?_ b2 | refine Ext.trans ?_ b1))) (fun hHeld=>?_)
    clear hK K
    try simp only [jP,jA,jB,jC,jD,jE,jF]
    refine rdH 6 (by kernel_rfl) rfl (fun K hK=>?_)
    go_simp
    go_at_call 96;refine (make_any (r:=r) (O8.out.rd.ext (by repeat (first | exact Ext.refl _ | refine Ext.trans ?_ (Ext.alloc _ _) | refine Ext.trans ?_ (drew_ext _) | refine Ext.trans ?_ ba | refine Ext.trans ?_ b11 | refine Ext.trans ?_ b10 | refine Ext.trans ?_ b9 | refine Ext.trans ?_ b8 | refine Ext.trans ?_ b7 | refine Ext.trans ?_ b6 | refine Ext.trans ?_ b5 | refine Ext.trans ?_ b4 | refine Ext.trans ?_ b3 | refine Ext.trans ?_ b2 | refine Ext.trans ?_ b1))) (O9.out.rd.ext (by repeat (first | exact Ext.refl _ | refine Ext.trans ?_ (Ext.alloc _ _) | refine Ext.trans ?_ (drew_ext _) | refine Ext.trans ?_ ba | refine Ext.trans ?_ b11 | refine Ext.trans ?_ b10 | refine Ext.trans ?_ b9 | refine Ext.trans ?_ b8 | refine Ext.trans ?_ b7 | refine Ext.trans ?_ b6 | refine Ext.trans ?_ b5 | refine Ext.trans ?_ b4 | refine Ext.trans ?_ b3 | refine Ext.trans ?_ b2 | refine Ext.trans ?_ b1))) (by omega) (by omega) (by rw [HD.out];exact denOf_ne ys) (by rw [HD.out];exact HRR.out)).mono ?_;rintro e w10 ⟨_,rfl,b10,_,rfl,n10,d10,rfl,on10,od10⟩;have ON10:=Lib.hid on10;have OD10:=Lib.hid od10;clear on10 od10;obtain ⟨an10,cn10,rfl,-,-,-,-⟩:=ON10.out.rd.1.shape;obtain ⟨ad10,cd10,rfl,-,-,-,-⟩:=OD10.out.rd.1.shape
    go_wp2_with fail
    refine hK.out _ _ (D1.out.ext (by repeat (first | exact Ext.refl _ | refine Ext.trans ?_ (Ext.alloc _ _) | refine Ext.trans ?_ (drew_ext _) | refine Ext.trans ?_ ba | refine Ext.trans ?_ b11 | refine Ext.trans ?_ b10 | refine Ext.trans ?_ b9 | refine Ext.trans ?_ b8 | refine Ext.trans ?_ b7 | refine Ext.trans ?_ b6 | refine Ext.trans ?_ b5 | refine Ext.trans ?_ b4 | refine Ext.trans ?_ b3 | refine Ext.trans ?_ b2 | refine Ext.trans ?_ b1))) (fun hHeld=>?_)
    clear hK K
    try simp only [jP,jA,jB,jC,jD,jE,jF]
    refine tkH 7 hHeld ?_
    simp only [jP,jA,jB,jC,jD,jE,jF]
    refine tkH 8 hHeld ?_
    simp only [jP,jA,jB,jC,jD,jE,jF]
    refine tkH 9 hHeld ?_
    simp only [jP,jA,jB,jC,jD,jE,jF]
    obtain ⟨_,_,_,j0,j1,j2,g0,g1,g2⟩:=(RA.out.ext (show Ext wa w10 from (by repeat (first | exact Ext.refl _ | refine Ext.trans ?_ (Ext.alloc _ _) | refine Ext.trans ?_ (drew_ext _) | refine Ext.trans ?_ ba | refine Ext.trans ?_ b11 | refine Ext.trans ?_ b10 | refine Ext.trans ?_ b9 | refine Ext.trans ?_ b8 | refine Ext.trans ?_ b7 | refine Ext.trans ?_ b6 | refine Ext.trans ?_ b5 | refine Ext.trans ?_ b4 | refine Ext.trans ?_ b3 | refine Ext.trans ?_ b2 | refine Ext.trans ?_ b1)))).cells
    refine rdH 11 (by kernel_rfl) rfl (fun K hK=>?_)
    go_simp
    refine hK.out _ _ ((D1.out.ext (show Ext w6 w10 from (by repeat (first | exact Ext.refl _ | refine Ext.trans ?_ (Ext.alloc _ _) | refine Ext.trans ?_ (drew_ext _) | refine Ext.trans ?_ ba | refine Ext.trans ?_ b11 | refine Ext.trans ?_ b10 | refine Ext.trans ?_ b9 | refine Ext.trans ?_ b8 | refine Ext.trans ?_ b7 | refine Ext.trans ?_ b6 | refine Ext.trans ?_ b5 | refine Ext.trans ?_ b4 | refine Ext.trans ?_ b3 | refine Ext.trans ?_ b2 | refine Ext.trans ?_ b1)))).put (c:=w6.heap.size) (by have:=hsz.out;have:=hsq.out;omega) _ _ _) (fun hHeld=>?_)
    clear hK K
    try simp only [jP,jA,jB,jC,jD,jE,jF]
    refine tkH 12 hHeld ?_
    simp only [jP,jA,jB,jC,jD,jE,jF]
    refine wpAnyH_done (by kernel_rfl) ?_ _
    refine NoPanic.normal ?_
    have hd6:w6.drew.heap.size=w6.heap.size:=rfl
    have h8:=b8.size
    have h9:=b9.size
    have h10:=b10.size
    have ha:=ba.size
    have hda:wa.drew.heap.size=wa.heap.size:=rfl
    go_wp2_with fail
    go_meet
    exact ⟨rfl,put3_below (by repeat (first | exact Ext.refl _ | refine Ext.trans ?_ (Ext.alloc _ _) | refine Ext.trans ?_ (drew_ext _) | refine Ext.trans ?_ ba | refine Ext.trans ?_ b11 | refine Ext.trans ?_ b10 | refine Ext.trans ?_ b9 | refine Ext.trans ?_ b8 | refine Ext.trans ?_ b7 | refine Ext.trans ?_ b6 | refine Ext.trans ?_ b5 | refine Ext.trans ?_ b4 | refine Ext.trans ?_ b3 | refine Ext.trans ?_ b2 | refine Ext.trans ?_ b1)) hsz.out _ _ _,_,_,_,_,_,rfl,hsz,Box3.put_at (RA.out.ext (by repeat (first | exact Ext.refl _ | refine Ext.trans ?_ (Ext.alloc _ _) | refine Ext.trans ?_ (drew_ext _) | refine Ext.trans ?_ ba | refine Ext.trans ?_ b11 | refine Ext.trans ?_ b10 | refine Ext.trans ?_ b9 | refine Ext.trans ?_ b8 | refine Ext.trans ?_ b7 | refine Ext.trans ?_ b6 | refine Ext.trans ?_ b5 | refine Ext.trans ?_ b4 | refine Ext.trans ?_ b3 | refine Ext.trans ?_ b2 | refine Ext.trans ?_ b1))) _ _ _,(ON10.out.put_new (by repeat (first | exact Ext.refl _ | refine Ext.trans ?_ (Ext.alloc _ _) | refine Ext.trans ?_ (drew_ext _) | refine Ext.trans ?_ ba | refine Ext.trans ?_ b11 | refine Ext.trans ?_ b10 | refine Ext.trans ?_ b9 | refine Ext.trans ?_ b8 | refine Ext.trans ?_ b7 | refine Ext.trans ?_ b6 | refine Ext.trans ?_ b5 | refine Ext.trans ?_ b4 | refine Ext.trans ?_ b3 | refine Ext.trans ?_ b2 | refine Ext.trans ?_ b1)) (by omega) _ _ _).mono (by omega),(OD10.out.put_new (by repeat (first | exact Ext.refl _ | refine Ext.trans ?_ (Ext.alloc _ _) | refine Ext.trans ?_ (drew_ext _) | refine Ext.trans ?_ ba | refine Ext.trans ?_ b11 | refine Ext.trans ?_ b10 | refine Ext.trans ?_ b9 | refine Ext.trans ?_ b8 | refine Ext.trans ?_ b7 | refine Ext.trans ?_ b6 | refine Ext.trans ?_ b5 | refine Ext.trans ?_ b4 | refine Ext.trans ?_ b3 | refine Ext.trans ?_ b2 | refine Ext.trans ?_ b1)) (by omega) _ _ _).mono (by omega)⟩
  case rest=>
   obtain ⟨rfl,b7,B,an,cn,ad,cd,rfl,hB,C4,ON,OD⟩:=hcut
   generalize wc=w7 at*
   have E1:=Lib.hid (D1.out.ext b7)
   go_upto_region 7 with (fail)
   have b8:=drew_ext w7
   have XE:=b8
   refine wp_region_noPanic ?_
   refine wp_region_held_drew (S:=fun w'=>(w'.cell? ⟨w.heap.size,0,none⟩=some (.bool s)∧w'.cell? ⟨w.heap.size,1,none⟩=some (a)∧w'.cell? ⟨w.heap.size,2,none⟩=some (b))∧(w'.cell? ⟨B,0,none⟩=some (.bool (decide (r.num < 0)))∧w'.cell? ⟨B,1,none⟩=some (.slice an (limbs r.num.natAbs).length cn)∧w'.cell? ⟨B,2,none⟩=some (.slice ad (dens r.den).length cd))) (by kernel_rfl) (⟨E1.out.ext XE,C4.out.ext XE⟩) (fun hHeld=>?_)
   refine tkH 0 hHeld ?_
   simp only [jP,jA,jB,jC,jD,jE,jF]
   refine tkH 1 hHeld ?_
   simp only [jP,jA,jB,jC,jD,jE,jF]
   refine tkH 2 hHeld ?_
   simp only [jP,jA,jB,jC,jD,jE,jF]
   refine tkH 3 hHeld ?_
   simp only [jP,jA,jB,jC,jD,jE,jF]
   refine tkH 5 hHeld ?_
   simp only [jP,jA,jB,jC,jD,jE,jF]
   refine rdH 4 (by kernel_rfl) rfl (fun K hK=>?_)
   go_simp
   go_at_call 76;refine (Of_any (O3.out.rd.ext (Ext.trans b4 (Ext.trans b5 (Ext.trans b6 (Ext.trans b7 b8))))) (by omega)).mono ?_;rintro e w9 ⟨v9,rfl,b9,o9⟩;have O9:=Lib.hid o9;clear o9;(first | have XE:=Ext.trans XE b9 | have XE:=Ext.trans (Ext.trans XE (Ext.alloc _ _)) b9)
   go_wp2_with fail
   refine hK.out _ _ (⟨E1.out.ext XE,C4.out.ext XE⟩) (fun hHeld=>?_)
   clear hK K
   try simp only [jP,jA,jB,jC,jD,jE,jF]
   refine rdH 6 (by kernel_rfl) rfl (fun K hK=>?_)
   go_simp
   go_at_call 76;refine (Of_any (HZ.out.ext (Ext.trans b7 (Ext.trans b8 b9))) (by omega)).mono ?_;rintro e w10 ⟨v10,rfl,b10,o10⟩;have O10:=Lib.hid o10;clear o10;(first | have XE:=Ext.trans XE b10 | have XE:=Ext.trans (Ext.trans XE (Ext.alloc _ _)) b10)
   go_wp2_with fail
   refine hK.out _ _ (⟨E1.out.ext XE,C4.out.ext XE⟩) (fun hHeld=>?_)
   clear hK K
   try simp only [jP,jA,jB,jC,jD,jE,jF]
   refine rdH 7 (by kernel_rfl) rfl (fun K hK=>?_)
   go_simp
   go_at_call 77;refine (r5of_to (r:=r) w7.heap.size ((O9.out.ext b10).mono (Nat.le_refl w7.heap.size)) (O10.out.mono b9.size) (Below.size (Ext.trans b8 (Ext.trans b9 b10))) (by have:=blen_nv O3.out.2;omega) (by have:=blen_nv HZ.out.2;omega) (by rw [HD.out];exact denOf_ne ys) (by rw [HD.out];exact HRR.out)).mono ?_;rintro e w11 ⟨_,rfl,b11,n11,d11,rfl,on11,od11⟩;have ON11:=Lib.hid on11;have OD11:=Lib.hid od11;clear on11 od11;obtain ⟨an11,cn11,rfl,-,-,-,-⟩:=ON11.out.rd.shape;obtain ⟨ad11,cd11,rfl,-,-,-,-⟩:=OD11.out.rd.shape;(first | have XE:=Ext.trans XE b11 | have XE:=Ext.trans (Ext.trans XE (Ext.alloc _ _)) b11);obtain ⟨_,_,_,j0,j1,j2,g0,g1,g2⟩:=(D2.out.ext (Ext.trans b7 (Ext.trans b8 (Ext.trans b9 (Ext.trans b10 b11))))).cells;obtain ⟨_,_,_,k0,k1,k2,f0,f1,f2⟩:=(D3.out.ext (Ext.trans b7 (Ext.trans b8 (Ext.trans b9 (Ext.trans b10 b11))))).cells
   go_wp2_with fail
   refine hK.out _ _ (⟨E1.out.ext XE,C4.out.ext XE⟩) (fun hHeld=>?_)
   clear hK K
   try simp only [jP,jA,jB,jC,jD,jE,jF]
   refine rdH 8 (by kernel_rfl) rfl (fun K hK=>?_)
   go_simp
   refine hK.out _ _ (⟨(E1.out.ext XE).put (by omega) _ _ _,(C4.out.ext XE).put (by have:=hB.out;have:=hs6.out;omega) _ _ _⟩) (fun hHeld=>?_)
   clear hK K
   try simp only [jP,jA,jB,jC,jD,jE,jF]
   refine rdH 9 (by kernel_rfl) rfl (fun K hK=>?_)
   go_simp
   refine hK.out _ _ (⟨((E1.out.ext XE).put (by omega) _ _ _).put (by omega) _ _ _,((C4.out.ext XE).put (by have:=hB.out;have:=hs6.out;omega) _ _ _).put (by have:=hB.out;have:=hs6.out;omega) _ _ _⟩) (fun hHeld=>?_)
   clear hK K
   try simp only [jP,jA,jB,jC,jD,jE,jF]
   refine wpAnyH_done (by kernel_rfl) ?_ _
   refine NoPanic.normal ?_
   go_wp2_with fail
   refine bodyPost_ret (v:=.tuple #[.agg #[.bool (decide (r.num < 0)),.slice an (limbs r.num.natAbs).length cn,.slice ad (dens r.den).length cd],.agg #[.bool (decide (r.num < 0)),.slice an11 (bitsOf r.num.natAbs).length cn11,.slice ad11 (bitsOf r.den).length cd11]]) (by simp [results,Tryz.results69,go_sem,j0,j1,j2,k0,k1,k2]) rfl ?_
   have h7:=b7.size
   have h6:=hs6.out
   exact hR.out _ _ (Gives.mk (put3_below (put3_below (Ext.trans b1 (Ext.trans b2 (Ext.trans b3 (Ext.trans b4 (Ext.trans b5 (Ext.trans b6 (Ext.trans b7 (Ext.trans b8 (Ext.trans b9 (Ext.trans b10 b11)))))))))) (by omega) _ _ _) (by omega) _ _ _) ⟨_,_,rfl,⟨_,_,rfl,(((ON.out.ext (Ext.trans b8 (Ext.trans b9 (Ext.trans b10 b11)))).put (by omega) _ _ _).put (by omega) _ _ _).mono (by omega),(((OD.out.ext (Ext.trans b8 (Ext.trans b9 (Ext.trans b10 b11)))).put (by omega) _ _ _).put (by omega) _ _ _).mono (by omega)⟩,⟨_,_,rfl,((ON11.out.put (by omega) _ _ _).put (by omega) _ _ _).mono (by omega),((OD11.out.put (by omega) _ _ _).put (by omega) _ _ _).mono (by omega)⟩⟩)
open Go.RowKit Go.Att

theorem told_any {w:World} {v:Value} {q:Rat} (hq:RdQ w v q) (sq:Sz 1000000 q):
  Calls Tryz.prog 46 #[v] w (Gives w fun v' w'=>OwnP 4 w.heap.size w' v' q):=by
 refine via fun R hR=>?_
 have HQ:=Lib.hid hq
 have SQ:=Lib.hid sq
 have SB:=Lib.hid sq.bits
 obtain ⟨n,d,rfl,-,-⟩:=hq
 obtain ⟨w1,hw1,b1,c1,-,-,r2,-⟩:=bx2 w [.bool (decide (q.num < 0)),n,d] [.bool false,.slice none 0 0,.slice none 0 0] 49 81
 obtain ⟨k0,k1,k2⟩:=c1.c3
 have R2:Hid (Room3 w1 (w.heap.size+1)):=r2.room3
 have hz:=Lib.hid r2.lt
 have HW:=Lib.hid hw1
 have hl:(((bitsOf q.den).length:Int) == 0)=false:=beqF (by have:=bits_len_pos.2 q.den_pos;omega)
 have HSELF:Hid (mkQ (decide (q.num < 0)) q.num.natAbs q.den=q):=mkQ_self q
 clear sq c1 r2 hw1
 go_enter Tryz.func46,Tryz.ntmps46
 go_upto_region 1 with (fail)
 rw [← HW.out]
 clear HW
 go_wp2_with fail
 clear k0 k1 k2
 refine (parts_any (HQ.out.ext b1) SQ.out.1 SQ.out.2).mono ?_
 rintro e w2 ⟨_,rfl,b2,v2,v3,rfl,o2,o3⟩
 have O2:=Lib.hid o2
 have OD:=Lib.hid o3
 clear o2 o3
 go_wp2_with fail
 refine (Of_any OD.out.rd (by have:=SQ.out.2;omega)).mono ?_
 rintro e w3 ⟨v4,rfl,b3,o4⟩
 rw [nv_limbs] at o4
 obtain ⟨a4,c4,rfl,-,-,-,-⟩:=o4.rd.shape
 clear o4
 go_wp2_with fail
 refine (Of_any (O2.out.rd.ext b3) (by have:=SQ.out.1;omega)).mono ?_
 rintro e w4 ⟨v5,rfl,b4,o5⟩
 rw [nv_limbs] at o5
 have O5:=Lib.hid o5
 clear o5
 go_wp2_with fail
 refine (Of_any (OD.out.rd.ext (Ext.trans b3 b4)) (by have:=SQ.out.2;omega)).mono ?_
 rintro e w5 ⟨v6,rfl,b5,o6⟩
 rw [nv_limbs] at o6
 have O6:=Lib.hid o6
 clear o6
 have z1:w3.heap.size≤w4.heap.size:=Below.size b4
 have z2:w4.heap.size≤w5.heap.size:=Below.size b5
 go_wp2_with fail
 refine (HSELF.out ▸ r5of_any (B:=w3.heap.size) (s:=decide (q.num < 0)) (n:=q.num.natAbs) (d:=q.den) (by omega) (O5.out.ext b5) (O6.out.mono (by omega)) (by have:=SB.out.1;omega) (by have:=SB.out.2;omega) q.den_nz).mono ?_
 rintro e w6 ⟨_,rfl,b6,n7,d7,rfl,on,od⟩
 obtain ⟨an,cn,rfl,-,-,-,-⟩:=on.rd.shape
 obtain ⟨ad,cd,rfl,-,-,-,-⟩:=od.rd.shape
 have ON:=Lib.hid on
 have OD7:=Lib.hid od
 obtain ⟨_,_,_,j0,j1,j2,g0,g1,g2⟩:=(R2.out.ext (Ext.trans b2 (Ext.trans b3 (Ext.trans b4 (Ext.trans b5 b6))))).cells
 clear on od
 go_wp2_with fail
 refine bodyPost_ret (v:=.agg #[.bool (decide (q.num < 0)),.slice an (bitsOf q.num.natAbs).length cn,.slice ad (bitsOf q.den).length cd]) (by simp [results,Tryz.results46,go_sem,j0,j1,j2]) rfl ?_
 have hs:=(Ext.trans b2 b3).size
 exact hR.out _ _ (Gives.mk (put3_below (Ext.trans b1 (Ext.trans b2 (Ext.trans b3 (Ext.trans b4 (Ext.trans b5 b6))))) (by omega) _ _ _) ⟨_,_,rfl,(OwnB.put3 ON.out (Ext.refl _) (by have:=hz.out;omega) _ _ _).mono (by have:=hz.out;omega),(OwnB.put3 OD7.out (Ext.refl _) (by have:=hz.out;omega) _ _ _).mono (by have:=hz.out;omega)⟩)

theorem of8_any {w:World} {v:Value} {s:Bool} {xs ys:List Nat} (hv:RdN w v s xs ys) (hx:xs.length≤1000000000) (hy:ys.length≤1000000000):
  Calls Tryz.prog 42 #[v] w (Gives w fun v' w'=>OwnQ 115 w.heap.size w' v' (qOf s xs ys)):=by
 refine via fun R hR=>?_
 have HV:=Lib.hid hv
 have HB:Hid (∀ {w v},RdN w v s xs ys→Calls Tryz.prog 69 #[v] w (Gives w fun v' w'=>∃ o1 o2,v'=.tuple #[o1,o2]∧OwnQ 115 w.heap.size w' o1 (qOf s xs ys)∧OwnP 4 w.heap.size w' o2 (qOf s xs ys))):=fun h=>both_any h hx hy
 generalize qOf s xs ys=q at*
 obtain ⟨y1,y2,rfl,-,-⟩:=hv
 obtain ⟨w1,hw1,b1,c1,-,-,r2,-⟩:=bx2 w [.bool s,y1,y2] [.bool false,.slice none 0 0,.slice none 0 0] 73 49
 obtain ⟨k0,k1,k2⟩:=c1.c3
 have R2:Hid (Room3 w1 (w.heap.size+1)):=r2.room3
 have hz:=Lib.hid r2.lt
 have HW:=Lib.hid hw1
 clear c1 r2 hw1
 go_enter Tryz.func42,Tryz.ntmps42
 go_upto_region 1 with (fail)
 rw [← HW.out]
 clear HW
 go_wp2_with fail
 clear k0 k1 k2
 refine (HB.out (HV.out.ext b1)).mono ?_
 rintro e w2 ⟨_,rfl,b2,_,_,rfl,⟨n,d,rfl,on,od⟩,⟨m,c,rfl,om,oc⟩⟩
 obtain ⟨an,cn,rfl,-,-,-,-⟩:=on.rd.1.shape
 obtain ⟨ad,cd,rfl,-,-,-,-⟩:=od.rd.1.shape
 obtain ⟨am,cm,rfl,-,-,-,-⟩:=om.rd.shape
 obtain ⟨ac,cc,rfl,-,-,-,-⟩:=oc.rd.shape
 obtain ⟨w3,hw,b3,c1,-,-,-,-⟩:=bx2 w2 [.bool (decide (q.num < 0)),.slice an (limbs q.num.natAbs).length cn,.slice ad (dens q.den).length cd] [.bool (decide (q.num < 0)),.slice am (bitsOf q.num.natAbs).length cm,.slice ac (bitsOf q.den).length cc] 49 81
 have HW:=Lib.hid hw
 have ON:=Lib.hid on
 have OD:=Lib.hid od
 obtain ⟨k0,k1,k2⟩:=c1.c3
 obtain ⟨_,_,_,j0,j1,j2,g0,g1,g2⟩:=(R2.out.ext (Ext.trans b2 b3)).cells
 clear hw c1 on od om oc
 go_upto_region 2 with (fail)
 rw [← HW.out]
 clear HW
 go_wp2_with fail
 refine bodyPost_ret (v:=.agg #[.bool (decide (q.num < 0)),.slice an (limbs q.num.natAbs).length cn,.slice ad (dens q.den).length cd]) (by simp [results,Tryz.results42,go_sem,j0,j1,j2]) rfl ?_
 exact hR.out _ _ (Gives.mk (put3_below (Ext.trans b1 (Ext.trans b2 b3)) (by omega) _ _ _) ⟨_,_,rfl,(ON.out.put_new b3 (by have:=hz.out;omega) _ _ _).mono (by have:=hz.out;omega),(OD.out.put_new b3 (by have:=hz.out;omega) _ _ _).mono (by have:=hz.out;omega)⟩)

open Go.RowKit Go.Att

theorem etRats:ElemT Tryz.prog 33 49 (.agg #[.bool false,.slice none 0 0,.slice none 0 0]) 3 56:=ElemT.mk' Tryz.underlying33 (by kernel_rfl) rfl (by decide)
theorem take_map_snoc {α β:Type} (f:α→β) {l:List α} {k:Nat} (h:k < l.length):(l.take (k+1)).map f=(l.take k).map f ++ [f l[k]]:=by
 rw [← List.take_append_getElem h,List.map_append];rfl
open Go.RowKit Go.Att

theorem etNums:ElemT Tryz.prog 39 81 (.agg #[.bool false,.slice none 0 0,.slice none 0 0]) 3 56:=ElemT.mk' Tryz.underlying39 (by kernel_rfl) rfl (by decide)
set_option maxRecDepth 100000 in
set_option maxHeartbeats 2000000 in
set_option linter.unusedSimpArgs false in
theorem nums_any {w:World} {v:Value} {l:List Rat} (hv:RdRow 3 RdQ w v l) (hs:∀ p∈l,Sz 1000000 p) (hl:l.length≤100000):
  Calls Tryz.prog 22 #[v] w (Gives w fun v' w'=>OwnRow 3 (OwnPp 4) 81 w.heap.size w' v' l):=by
 refine via fun R hR=>?_
 have HS:=Lib.hid hs
 obtain ⟨a,c,rfl,hlc,hcm⟩:=hv.shape
 have HV:=Lib.hid hv
 unfold maxLen at hcm
 clear hv hs
 go_enter Tryz.func22,Tryz.ntmps22
 go_wp2_with fail
 go_loopw [3,9] (fun o i wr=>∃ k:Nat,i=.int .i64 k∧k≤l.length∧Ext w wr∧Hid (OwnRow 3 (OwnPp 4) 81 w.heap.size wr o (l.take k))) (fun _ i _=>l.length - (intOf i).toNat)
 case atStart=>exact ⟨0,rfl,Nat.zero_le _,Ext.alloc _ _,by rw [List.take_zero];exact OwnRow.nilLit _ (Nat.le_refl _)⟩
 case round=>
  obtain ⟨k,rfl,hk,hx,hO⟩:=hrel
  have hsz:=hx.size
  by_cases hlt:k < l.length
  ·obtain ⟨b,off,cs,rfl,hcl,hT,hc⟩:=HV.out.at (by decide) k hlt
   obtain ⟨aa,ac,ab,ad,rfl⟩:=cells_Q hT
   have e0:=Ext.cell hx (hc 0 (by decide))
   have e1:=Ext.cell hx (hc 1 (by decide))
   have e2:=Ext.cell hx (hc 2 (by decide))
   have HSN:=Lib.hid (take_map_snoc id hlt)
   simp only [List.map_id,id] at HSN
   have HTT:=Lib.hid (RdQ.ext hT hx)
   have HSS:=Lib.hid (HS.out l[k] (List.getElem_mem hlt))
   simp only [List.getElem?_cons_zero,List.getElem?_cons_succ,Nat.add_zero] at e0 e1 e2
   generalize l[k]=p at*
   have HKL:Hid ((l.take k).length≤100000):=by show _≤_;simp;omega
   obtain ⟨w1,hw1,b1,c1,-,-⟩:=bx1 wr [.bool (decide (p.num < 0)),.slice aa (limbs p.num.natAbs).length ac,.slice ab (dens p.den).length ad] 49
   have HW:=Lib.hid hw1
   obtain ⟨k0,k1,k2⟩:=c1.c3
   clear hT hc hcl c1 hw1
   go_upto_region 5 with (fail)
   rw [← HW.out]
   clear HW e0 e1 e2
   go_wp2_with fail
   refine (told_any (HTT.out.ext b1) HSS.out).mono ?_
   rintro e w2 ⟨_,rfl,b2,o2⟩
   clear k0 k1 k2
   obtain ⟨s1,a1,l1,c1,a1',l1',c1',rfl,O2⟩:=o2.op
   have b02:=hx.trans (b1.trans b2)
   have hO1:=Lib.hid (hO.out.ext OwnP.ext (b1.trans b2))
   clear o2
   go_wp2_with (at_builtin;refine append_rowL (y:=p) etNums (kdP (e:=4) (by decide)) (by rfl) _ _ (by rfl) w.heap.size (by rfl) _ (by rfl) hO1.out rfl (O2.out.mono (Nat.zero_le _)) (Below.size b02) (by have:=HKL.out;omega) (by unfold maxLen;have:=HKL.out;omega) ?_;intro v9 w9 o9 b9 g9)
   go_roundw
   case rel=>
    refine ⟨k+1,by go_num,by omega,Below.trans b02 b9,?_⟩
    rw [HSN.out]
    exact o9
   case measure=>simp [intOf] <;> omega
  ·obtain rfl:k=l.length:=by omega
   have HX:Hid (l.take l.length=l):=List.take_length
   go_wp2_with fail
   exact hR.out _ _ (Gives.mk hx (by rw [← HX.out];exact hO.out))
end Go.Proofs.YthpaifdfafjlcaaGreat

namespace Go.Att
open Go.RowKit
theorem Rm.c3 {w:World} {b:Nat} (h:Rm w b 3):∃ x0 x1 x2,w.cell? ⟨b,0,none⟩=some x0∧w.cell? ⟨b,1,none⟩=some x1∧w.cell? ⟨b,2,none⟩=some x2∧w.frozen? ⟨b,0,none⟩=false∧w.frozen? ⟨b,1,none⟩=false∧w.frozen? ⟨b,2,none⟩=false:=by
 obtain ⟨x0,h0,g0⟩:=h.at 0 (by omega)
 obtain ⟨x1,h1,g1⟩:=h.at 1 (by omega)
 obtain ⟨x2,h2,g2⟩:=h.at 2 (by omega)
 exact ⟨x0,x1,x2,h0,h1,h2,g0,g1,g2⟩
theorem agg3_inj {x y z x' y' z':Value} (h:Value.agg #[x,y,z]=.agg #[x',y',z']):x=x'∧y=y'∧z=z':=by
 simpa only [Value.agg.injEq,Array.mk.injEq,List.cons.injEq,and_true] using h
theorem RdQ.op3 {w:World} {x y z:Value} {q:Rat} (h:RdQ w (.agg #[x,y,z]) q):∃ s a l c a' l' c',x=.bool s∧y=.slice a l c∧z=.slice a' l' c':=by
 obtain ⟨s,a,l,c,a',l',c',e,-⟩:=h.op
 obtain ⟨rfl,rfl,rfl⟩:=agg3_inj e
 exact ⟨_,_,_,_,_,_,_,rfl,rfl,rfl⟩
theorem RdP.op3 {w:World} {x y z:Value} {q:Rat} (h:RdP w (.agg #[x,y,z]) q):∃ s a l c a' l' c',x=.bool s∧y=.slice a l c∧z=.slice a' l' c':=by
 obtain ⟨s,a,l,c,a',l',c',e,-⟩:=h.op
 obtain ⟨rfl,rfl,rfl⟩:=agg3_inj e
 exact ⟨_,_,_,_,_,_,_,rfl,rfl,rfl⟩
theorem OwnD.fstQ {e:TypeId} {B:Nat} {w:World} {x y z x' y' z':Value} {a b:Rat} (h:OwnD e B w (.agg #[x,y,z,x',y',z']) a b):OwnQ e B w (.agg #[x,y,z]) a:=by
 obtain ⟨n,d,m,c,he,h1,h2,-,-⟩:=h
 simp only [Value.agg.injEq,Array.mk.injEq,List.cons.injEq,and_true] at he
 obtain ⟨rfl,rfl,rfl,-,-,-⟩:=he
 exact ⟨_,_,rfl,h1,h2⟩
theorem RdD.fst3 {w:World} {x0 x1 x2 x3 x4 x5:Value} {a b:Rat} (h:RdD w (.agg #[x0,x1,x2,x3,x4,x5]) a b):RdQ w (.agg #[x0,x1,x2]) a:=by
 obtain ⟨_,_,_,_,_,_,he,h1,-⟩:=h
 simp only [Value.agg.injEq,Array.mk.injEq,List.cons.injEq,and_true] at he
 obtain ⟨rfl,rfl,rfl,-,-,-⟩:=he
 exact h1
theorem RdD.snd3 {w:World} {x0 x1 x2 x3 x4 x5:Value} {a b:Rat} (h:RdD w (.agg #[x0,x1,x2,x3,x4,x5]) a b):RdQ w (.agg #[x3,x4,x5]) b:=by
 obtain ⟨_,_,_,_,_,_,he,-,h1⟩:=h
 simp only [Value.agg.injEq,Array.mk.injEq,List.cons.injEq,and_true] at he
 obtain ⟨-,-,-,rfl,rfl,rfl⟩:=he
 exact h1
def Bo (w:World) (b o:Nat) (cs:List Value):Prop:=∀ j v,cs[j]?=some v→w.cell? ⟨b,o+j,none⟩=some v
theorem Bo.ext {w w':World} {b o:Nat} {cs:List Value} (h:Bo w b o cs) (e:Ext w w'):Bo w' b o cs:=fun j v hv=>e.cell (h j v hv)
theorem Bo.of {w:World} {b o n:Nat} {cs:List Value} (h:∀ j,j < n→w.cell? ⟨b,o+j,none⟩=cs[j]?) (hn:cs.length=n:=by rfl):Bo w b o cs:=fun j v hv=>by
 rw [h j (by have:=(List.getElem?_eq_some_iff.1 hv).1;omega),hv]
theorem Bo.c6 {w:World} {b o:Nat} {x0 x1 x2 x3 x4 x5:Value} {l:List Value} (h:Bo w b o (x0 :: x1 :: x2 :: x3 :: x4 :: x5 :: l)):w.cell? ⟨b,o,none⟩=some x0∧w.cell? ⟨b,o+1,none⟩=some x1∧w.cell? ⟨b,o+2,none⟩=some x2∧w.cell? ⟨b,o+3,none⟩=some x3∧w.cell? ⟨b,o+4,none⟩=some x4∧w.cell? ⟨b,o+5,none⟩=some x5:=
 ⟨h 0 _ rfl,h 1 _ rfl,h 2 _ rfl,h 3 _ rfl,h 4 _ rfl,h 5 _ rfl⟩
theorem Bo.putL {w:World} {b o:Nat} {cs:List Value} (h:Bo w b o cs) {c:Nat} (hne:b≠c) (i:Nat) (l:List Value):Bo (Att.putL w c i l) b o cs:=fun j v hv=>by
 rw [World.cell?_of_block (putL_block c hne l w i)]
 exact h j v hv
theorem Bo.lt {w:World} {b o:Nat} {x:Value} {cs:List Value} (h:Bo w b o (x :: cs)):b < w.heap.size:=World.block_lt_of_cell? w _ (h 0 x rfl)
def Bq (e t:TypeId) (w:World) (b:Nat) (q:Rat):Prop:=∃ x y z,Bx w b [x,y,z]∧Rt w b 3 t∧OwnQ e 0 w (.agg #[x,y,z]) q
section
variable {e t:TypeId}
theorem Bq.ext {w w':World} {b:Nat} {q:Rat} (h:Bq e t w b q) (x:Ext w w'):Bq e t w' b q:=by
 obtain ⟨_,_,_,h1,h2,h3⟩:=h
 exact ⟨_,_,_,h1.ext x,h2.ext x,h3.ext x⟩
theorem Bq.set {w:World} {c:Nat} {q:Rat} (hc:Rt w c 3 t) (ht:e≠t) {x y z:Value} (h:OwnQ e 0 w (.agg #[x,y,z]) q):Bq e t (put3 w c x y z) c q:=
 ⟨_,_,_,(hc.putL_at [x,y,z] rfl).1,(hc.putL_at [x,y,z] rfl).2,h.putT hc ht 0 [x,y,z]⟩
theorem Bq.new {w:World} {x y z:Value} {q:Rat} (h:OwnQ e 0 w (.agg #[x,y,z]) q):Bq e t (w.alloc (.cells #[x,y,z] t)) w.heap.size q:=
 ⟨_,_,_,Bx.new w [x,y,z] _,Rt.new w [x,y,z] _,h.ext (Ext.alloc _ _)⟩
theorem Bq.rt {w:World} {b:Nat} {q:Rat} (h:Bq e t w b q):Rt w b 3 t:=by
 obtain ⟨_,_,_,-,h,-⟩:=h
 exact h
theorem Bq.op {w:World} {b:Nat} {q:Rat} (h:Bq e t w b q):∃ s a l c a' l' c',Hid (Bx w b [.bool s,.slice a l c,.slice a' l' c'])∧Hid (Rt w b 3 t)∧Hid (OwnQ e 0 w (.agg #[.bool s,.slice a l c,.slice a' l' c']) q):=by
 obtain ⟨x,y,z,h1,h2,h3⟩:=h
 obtain ⟨_,_,_,_,_,_,_,rfl,rfl,rfl⟩:=RdQ.op3 h3.rd
 exact ⟨_,_,_,_,_,_,_,h1,h2,h3⟩
end
def Bp (e t:TypeId) (w:World) (b:Nat) (q:Rat):Prop:=∃ x y z,Bx w b [x,y,z]∧Rt w b 3 t∧OwnP e 0 w (.agg #[x,y,z]) q
section
variable {e t:TypeId}
theorem Bp.ext {w w':World} {b:Nat} {q:Rat} (h:Bp e t w b q) (x:Ext w w'):Bp e t w' b q:=by
 obtain ⟨_,_,_,h1,h2,h3⟩:=h
 exact ⟨_,_,_,h1.ext x,h2.ext x,h3.ext x⟩
theorem Bp.set {w:World} {c:Nat} {q:Rat} (hc:Rt w c 3 t) (ht:e≠t) {x y z:Value} (h:OwnP e 0 w (.agg #[x,y,z]) q):Bp e t (put3 w c x y z) c q:=
 ⟨_,_,_,(hc.putL_at [x,y,z] rfl).1,(hc.putL_at [x,y,z] rfl).2,h.putT hc ht 0 [x,y,z]⟩
theorem Bp.new {w:World} {x y z:Value} {q:Rat} (h:OwnP e 0 w (.agg #[x,y,z]) q):Bp e t (w.alloc (.cells #[x,y,z] t)) w.heap.size q:=
 ⟨_,_,_,Bx.new w [x,y,z] _,Rt.new w [x,y,z] _,h.ext (Ext.alloc _ _)⟩
theorem Bp.op {w:World} {b:Nat} {q:Rat} (h:Bp e t w b q):∃ s a l c a' l' c',Hid (Bx w b [.bool s,.slice a l c,.slice a' l' c'])∧Hid (Rt w b 3 t)∧Hid (OwnP e 0 w (.agg #[.bool s,.slice a l c,.slice a' l' c']) q):=by
 obtain ⟨x,y,z,h1,h2,h3⟩:=h
 obtain ⟨_,_,_,_,_,_,_,rfl,rfl,rfl⟩:=RdP.op3 h3.rd
 exact ⟨_,_,_,_,_,_,_,h1,h2,h3⟩
end
end Go.Att
