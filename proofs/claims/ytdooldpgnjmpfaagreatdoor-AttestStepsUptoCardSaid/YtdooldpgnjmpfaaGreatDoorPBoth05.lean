/- attestlaw05.Both -/
import Derived.Test.YtdooldpgnjmpfaaGreatDoorSq
import Derived.Test.YtdooldpgnjmpfaaGreatDoorPartBD
import Derived.Test.YtdooldpgnjmpfaaGreatDoorPartBG
import Derived.Test.YtdooldpgnjmpfaaGreatDoorPartBF
namespace Go.Proofs.YtdooldpgnjmpfaaGreatDoor
open Go.RowKit Go.Att

set_option maxHeartbeats 2000000 in
set_option linter.unusedSimpArgs false in
theorem both_any {w:World} {v:Value} {s:Bool} {xs ys:List Nat} (hv:RdN w v s xs ys) (hlx:xs.length≤1000000000) (hly:ys.length≤1000000000):
  Calls Tryz.prog 36 #[v] w (Gives w fun v' w'=>∃ o1 o2,v'=.tuple #[o1,o2]∧OwnQ 119 w.heap.size w' o1 (qOf s xs ys)∧OwnP 4 w.heap.size w' o2 (qOf s xs ys)):=by
 refine via fun R hR=>?_
 generalize hr:qOf s xs ys=r at hR
 rw [qOf_eq] at hr
 have HRR:=Lib.hid hr
 obtain ⟨a,b,rfl,ha,hb⟩:=hv
 have HA:=Lib.hid ha
 have HB:=Lib.hid hb
 clear hr ha hb
 obtain ⟨w1,hw1,b1,c1,c2,c3,z1⟩:=box1RR w (.bool s) a b (.bool false) (.slice none 0 0) (.slice none 0 0) (.bool false) (.slice none 0 0) (.slice none 0 0) 71 59 87
 have C1:=Lib.hid c1
 have C2:=Lib.hid c2
 have C3:=Lib.hid c3
 have HW:=Lib.hid hw1
 clear c1 c2 c3 hw1
 go_enter Tryz.func36,Tryz.ntmps36
 go_wp2_with fail
 rw [← HW.out]
 clear HW
 have b2:=drew_ext w1
 have XE:=b2
 go_region_held3 (fun w'=>w'.cell? ⟨w.heap.size,0,none⟩=some (.bool s)∧w'.cell? ⟨w.heap.size,1,none⟩=some (a)∧w'.cell? ⟨w.heap.size,2,none⟩=some (b)) (exact C1.out.ext XE)
  (first
   | (go_at_call 62;refine (few5_any (HB.out.ext (Ext.trans b1 (Ext.trans b2 b3))) (by omega)).mono ?_;rintro e w4 ⟨v4,rfl,b4,o4⟩;have O4:=Lib.hid o4;clear o4;(first | have XE:=Ext.trans XE b4 | have XE:=Ext.trans (Ext.trans XE (Ext.alloc _ _)) b4))
   | (go_at_call 62;refine (few5_any (HA.out.ext (Ext.trans b1 b2)) (by omega)).mono ?_;rintro e w3 ⟨v3,rfl,b3,o3⟩;have O3:=Lib.hid o3;clear o3;(first | have XE:=Ext.trans XE b3 | have XE:=Ext.trans (Ext.trans XE (Ext.alloc _ _)) b3)))
 have hl4:(ys.take 8).length≤8:=by rw [List.length_take];omega
 have hl3:(xs.take 8).length≤8:=by rw [List.length_take];omega
 go_wp2_with fail
 refine (Of_any O4.out.rd (by omega)).mono ?_
 rintro e w5 ⟨v5,rfl,b5,o5⟩
 have O5:=Lib.hid o5
 clear o5
 obtain ⟨a5,c5,rfl,-,-,-,-⟩:=O5.out.rd.shape
 go_upto_if 17 with (fail)
 go_cut [5] (fun s5 wx=>Ext w5 wx∧Hid (∃ zs,RdL wx s5 zs∧nv zs=denOf ys∧zs.length≤8))
 case first=>
  by_cases h0:nv (ys.take 8)=0
  ·have hl:(((bitsOf (nv (ys.take 8))).length:Int) == 0)=true:=beqT (by rw [h0,bitsOf_zero];rfl)
   have he:denOf ys=1:=by unfold denOf;rw [if_pos h0]
   clear h0
   go_wp2_with fail
   go_meet
   exact ⟨Ext.alloc _ _,[1],lit1_rd _ _ (by decide),by rw [he];exact val_one _ _,by decide⟩
  ·have hl:(((bitsOf (nv (ys.take 8))).length:Int) == 0)=false:=beqF (by have:=bits_len_pos.2 (show 0 < nv (ys.take 8) by omega);omega)
   have he:denOf ys=nv (ys.take 8):=by unfold denOf;rw [if_neg h0]
   clear h0
   go_wp2_with fail
   go_meet
   exact ⟨Ext.refl _,_,O4.out.rd.ext b5,he.symm,hl4⟩
 case rest=>
  obtain ⟨b6,hh⟩:=hcut
  obtain ⟨zs,hz,hd,hlz⟩:=hh.out
  have HZ:=Lib.hid hz
  have HD:=Lib.hid hd
  clear hh hz hd O5
  have D1:=Lib.hid (C1.out.ext (Ext.trans b2 (Ext.trans b3 (Ext.trans b4 (Ext.trans b5 b6)))))
  have D2:=Lib.hid (C2.out.ext (Ext.trans b2 (Ext.trans b3 (Ext.trans b4 (Ext.trans b5 b6)))))
  have D3:=Lib.hid (C3.out.ext (Ext.trans b2 (Ext.trans b3 (Ext.trans b4 (Ext.trans b5 b6)))))
  have hs6:=Lib.hid (Below.size (Ext.trans b2 (Ext.trans b3 (Ext.trans b4 (Ext.trans b5 b6)))))
  have hsq:Hid (w.heap.size < wc.heap.size):=by have:=hs6.out;show _ < _;omega
  clear C1 C2 C3
  generalize wc=w6 at*
  go_upto_region 4 with (fail)
  go_cut [6,7] (fun s6 s7 wx=>s7=.bool true∧Ext w6 wx∧∃ B an cn ad cd,s6=.pointer (some ⟨B,0,none⟩)∧Hid (w6.heap.size≤B)∧Hid (Box3 wx B (.bool (decide (r.num < 0))) (.slice an (limbs r.num.natAbs).length cn) (.slice ad (dens r.den).length cd))∧Hid (OwnL 119 w6.heap.size wx (.slice an (limbs r.num.natAbs).length cn) (limbs r.num.natAbs))∧Hid (OwnL 119 w6.heap.size wx (.slice ad (dens r.den).length cd) (dens r.den)))
  case first=>
   have b7:=drew_ext w6
   refine wp_region_noPanic ?_
   refine wp_region_held_drew (S:=fun w'=>w'.cell? ⟨w.heap.size,0,none⟩=some (.bool s)∧w'.cell? ⟨w.heap.size,1,none⟩=some (a)∧w'.cell? ⟨w.heap.size,2,none⟩=some (b)) (by kernel_rfl) (D1.out.ext (by repeat (first | exact Ext.refl _ | refine Ext.trans ?_ (Ext.alloc _ _) | refine Ext.trans ?_ (drew_ext _) | refine Ext.trans ?_ ba | refine Ext.trans ?_ b11 | refine Ext.trans ?_ b10 | refine Ext.trans ?_ b9 | refine Ext.trans ?_ b8 | refine Ext.trans ?_ b7 | refine Ext.trans ?_ b6 | refine Ext.trans ?_ b5 | refine Ext.trans ?_ b4 | refine Ext.trans ?_ b3 | refine Ext.trans ?_ b2 | refine Ext.trans ?_ b1))) (fun hHeld=>?_)
   refine tkH 0 hHeld ?_
   simp only [jP,jA,jB,jC,jD,jE,jF]
   refine tkH 1 hHeld ?_
   simp only [jP,jA,jB,jC,jD,jE,jF]
   refine tkH 2 hHeld ?_
   simp only [jP,jA,jB,jC,jD,jE,jF]
   refine tkH 4 hHeld ?_
   simp only [jP,jA,jB,jC,jD,jE,jF]
   refine wpAnyH_ready (rs:=[3,10]) (by kernel_rfl) (by simp) ?_
   refine AllReadyH.cons (o:=_) rfl (fun K hK=>?_) (AllReadyH.cons (o:=_) rfl (fun K hK=>?_) AllReadyH.nil)
   ·skip
    go_simp
    go_at_call 64;refine (Copy_any (O3.out.rd.ext (by repeat (first | exact Ext.refl _ | refine Ext.trans ?_ (Ext.alloc _ _) | refine Ext.trans ?_ (drew_ext _) | refine Ext.trans ?_ ba | refine Ext.trans ?_ b11 | refine Ext.trans ?_ b10 | refine Ext.trans ?_ b9 | refine Ext.trans ?_ b8 | refine Ext.trans ?_ b7 | refine Ext.trans ?_ b6 | refine Ext.trans ?_ b5 | refine Ext.trans ?_ b4 | refine Ext.trans ?_ b3 | refine Ext.trans ?_ b2 | refine Ext.trans ?_ b1))) (by omega)).mono ?_;rintro e w8 ⟨v8,rfl,b8,o8⟩;have O8:=Lib.hid o8;clear o8
    go_wp2_with fail
    refine hK.out _ _ (D1.out.ext (by repeat (first | exact Ext.refl _ | refine Ext.trans ?_ (Ext.alloc _ _) | refine Ext.trans ?_ (drew_ext _) | refine Ext.trans ?_ ba | refine Ext.trans ?_ b11 | refine Ext.trans ?_ b10 | refine Ext.trans ?_ b9 | refine Ext.trans ?_ b8 | refine Ext.trans ?_ b7 | refine Ext.trans ?_ b6 | refine Ext.trans ?_ b5 | refine Ext.trans ?_ b4 | refine Ext.trans ?_ b3 | refine Ext.trans ?_ b2 | refine Ext.trans ?_ b1))) (fun hHeld=>?_)
    clear hK K
    try simp only [jP,jA,jB,jC,jD,jE,jF]
    refine wpAnyH_ready (rs:=[5,10]) (by kernel_rfl) (by simp) ?_
    refine AllReadyH.cons (o:=_) rfl (fun K hK=>?_) (AllReadyH.cons (o:=_) rfl (fun K hK=>?_) AllReadyH.nil)
    ·skip
     go_simp
     go_at_call 64;refine (Copy_any (HZ.out.ext (by repeat (first | exact Ext.refl _ | refine Ext.trans ?_ (Ext.alloc _ _) | refine Ext.trans ?_ (drew_ext _) | refine Ext.trans ?_ ba | refine Ext.trans ?_ b11 | refine Ext.trans ?_ b10 | refine Ext.trans ?_ b9 | refine Ext.trans ?_ b8 | refine Ext.trans ?_ b7 | refine Ext.trans ?_ b6 | refine Ext.trans ?_ b5 | refine Ext.trans ?_ b4 | refine Ext.trans ?_ b3 | refine Ext.trans ?_ b2 | refine Ext.trans ?_ b1))) (by omega)).mono ?_;rintro e w9 ⟨v9,rfl,b9,o9⟩;have O9:=Lib.hid o9;clear o9
     go_wp2_with fail
     refine hK.out _ _ (D1.out.ext (by repeat (first | exact Ext.refl _ | refine Ext.trans ?_ (Ext.alloc _ _) | refine Ext.trans ?_ (drew_ext _) | refine Ext.trans ?_ ba | refine Ext.trans ?_ b11 | refine Ext.trans ?_ b10 | refine Ext.trans ?_ b9 | refine Ext.trans ?_ b8 | refine Ext.trans ?_ b7 | refine Ext.trans ?_ b6 | refine Ext.trans ?_ b5 | refine Ext.trans ?_ b4 | refine Ext.trans ?_ b3 | refine Ext.trans ?_ b2 | refine Ext.trans ?_ b1))) (fun hHeld=>?_)
     clear hK K
     try simp only [jP,jA,jB,jC,jD,jE,jF]
     refine wpAnyH_ready (rs:=[6,10]) (by kernel_rfl) (by simp) ?_
     refine AllReadyH.cons (o:=_) rfl (fun K hK=>?_) (AllReadyH.cons (o:=_) rfl (fun K hK=>?_) AllReadyH.nil)
     ·skip
      go_simp
      go_at_call 63;refine (make_any (r:=r) (O8.out.rd.ext (by repeat (first | exact Ext.refl _ | refine Ext.trans ?_ (Ext.alloc _ _) | refine Ext.trans ?_ (drew_ext _) | refine Ext.trans ?_ ba | refine Ext.trans ?_ b11 | refine Ext.trans ?_ b10 | refine Ext.trans ?_ b9 | refine Ext.trans ?_ b8 | refine Ext.trans ?_ b7 | refine Ext.trans ?_ b6 | refine Ext.trans ?_ b5 | refine Ext.trans ?_ b4 | refine Ext.trans ?_ b3 | refine Ext.trans ?_ b2 | refine Ext.trans ?_ b1))) (O9.out.rd.ext (by repeat (first | exact Ext.refl _ | refine Ext.trans ?_ (Ext.alloc _ _) | refine Ext.trans ?_ (drew_ext _) | refine Ext.trans ?_ ba | refine Ext.trans ?_ b11 | refine Ext.trans ?_ b10 | refine Ext.trans ?_ b9 | refine Ext.trans ?_ b8 | refine Ext.trans ?_ b7 | refine Ext.trans ?_ b6 | refine Ext.trans ?_ b5 | refine Ext.trans ?_ b4 | refine Ext.trans ?_ b3 | refine Ext.trans ?_ b2 | refine Ext.trans ?_ b1))) (by omega) (by omega) (by rw [HD.out];exact denOf_ne ys) (by rw [HD.out];exact HRR.out)).mono ?_;rintro e w10 ⟨_,rfl,b10,_,rfl,n10,d10,rfl,on10,od10⟩;have ON10:=Lib.hid on10;have OD10:=Lib.hid od10;clear on10 od10;obtain ⟨an10,cn10,rfl,-,-,-,-⟩:=ON10.out.rd.1.shape;obtain ⟨ad10,cd10,rfl,-,-,-,-⟩:=OD10.out.rd.1.shape
      go_wp2_with fail
      refine hK.out _ _ (D1.out.ext (by repeat (first | exact Ext.refl _ | refine Ext.trans ?_ (Ext.alloc _ _) | refine Ext.trans ?_ (drew_ext _) | refine Ext.trans ?_ ba | refine Ext.trans ?_ b11 | refine Ext.trans ?_ b10 | refine Ext.trans ?_ b9 | refine Ext.trans ?_ b8 | refine Ext.trans ?_ b7 | refine Ext.trans ?_ b6 | refine Ext.trans ?_ b5 | refine Ext.trans ?_ b4 | refine Ext.trans ?_ b3 | refine Ext.trans ?_ b2 | refine Ext.trans ?_ b1))) (fun hHeld=>?_)
      clear hK K
      try simp only [jP,jA,jB,jC,jD,jE,jF]
      refine tkH 7 hHeld ?_
      simp only [jP,jA,jB,jC,jD,jE,jF]
      refine tkH 8 hHeld ?_
      simp only [jP,jA,jB,jC,jD,jE,jF]
      refine tkH 9 hHeld ?_
      simp only [jP,jA,jB,jC,jD,jE,jF]
      refine rdH 10 (by kernel_rfl) rfl (fun K hK=>?_)
      go_simp
      refine hK.out _ _ (D1.out.ext (by repeat (first | exact Ext.refl _ | refine Ext.trans ?_ (Ext.alloc _ _) | refine Ext.trans ?_ (drew_ext _) | refine Ext.trans ?_ ba | refine Ext.trans ?_ b11 | refine Ext.trans ?_ b10 | refine Ext.trans ?_ b9 | refine Ext.trans ?_ b8 | refine Ext.trans ?_ b7 | refine Ext.trans ?_ b6 | refine Ext.trans ?_ b5 | refine Ext.trans ?_ b4 | refine Ext.trans ?_ b3 | refine Ext.trans ?_ b2 | refine Ext.trans ?_ b1))) (fun hHeld=>?_)
      clear hK K
      try simp only [jP,jA,jB,jC,jD,jE,jF]
      obtain ⟨wa,hwa,ba,ra,za⟩:=boxR w10 (.bool false) (.slice none 0 0) (.slice none 0 0) 59
      rw [← hwa] at hHeld ⊢
      have RA:Hid (Room3 wa w10.heap.size):=ra
      have hsz:Hid (w6.heap.size≤w10.heap.size):=Below.size (by repeat (first | exact Ext.refl _ | refine Ext.trans ?_ (Ext.alloc _ _) | refine Ext.trans ?_ (drew_ext _) | refine Ext.trans ?_ ba | refine Ext.trans ?_ b11 | refine Ext.trans ?_ b10 | refine Ext.trans ?_ b9 | refine Ext.trans ?_ b8 | refine Ext.trans ?_ b7 | refine Ext.trans ?_ b6 | refine Ext.trans ?_ b5 | refine Ext.trans ?_ b4 | refine Ext.trans ?_ b3 | refine Ext.trans ?_ b2 | refine Ext.trans ?_ b1))
      have za:wa.heap.size=w10.heap.size+1:=za
      clear hwa ra
      obtain ⟨_,_,_,j0,j1,j2,g0,g1,g2⟩:=(RA.out.ext (show Ext wa wa from (by repeat (first | exact Ext.refl _ | refine Ext.trans ?_ (Ext.alloc _ _) | refine Ext.trans ?_ (drew_ext _) | refine Ext.trans ?_ ba | refine Ext.trans ?_ b11 | refine Ext.trans ?_ b10 | refine Ext.trans ?_ b9 | refine Ext.trans ?_ b8 | refine Ext.trans ?_ b7 | refine Ext.trans ?_ b6 | refine Ext.trans ?_ b5 | refine Ext.trans ?_ b4 | refine Ext.trans ?_ b3 | refine Ext.trans ?_ b2 | refine Ext.trans ?_ b1)))).cells
      refine rdH 11 (by kernel_rfl) rfl (fun K hK=>?_)
      go_simp
      refine hK.out _ _ ((D1.out.ext (show Ext w6 wa from (by repeat (first | exact Ext.refl _ | refine Ext.trans ?_ (Ext.alloc _ _) | refine Ext.trans ?_ (drew_ext _) | refine Ext.trans ?_ ba | refine Ext.trans ?_ b11 | refine Ext.trans ?_ b10 | refine Ext.trans ?_ b9 | refine Ext.trans ?_ b8 | refine Ext.trans ?_ b7 | refine Ext.trans ?_ b6 | refine Ext.trans ?_ b5 | refine Ext.trans ?_ b4 | refine Ext.trans ?_ b3 | refine Ext.trans ?_ b2 | refine Ext.trans ?_ b1)))).put (c:=w10.heap.size) (by have:=hsz.out;have:=hsq.out;omega) _ _ _) (fun hHeld=>?_)
      clear hK K
      try simp only [jP,jA,jB,jC,jD,jE,jF]
      refine tkH 12 hHeld ?_
      simp only [jP,jA,jB,jC,jD,jE,jF]
      refine wpAnyH_done (by kernel_rfl) ?_ _
      refine NoPanic.normal ?_
      have hd6:w6.drew.heap.size=w6.heap.size:=rfl
      have h8:=b8.size
      have h9:=b9.size
      have h10:=b10.size
      have ha:=ba.size
      have hda:wa.drew.heap.size=wa.heap.size:=rfl
      go_wp2_with fail
      go_meet
      exact ⟨rfl,put3_below (by repeat (first | exact Ext.refl _ | refine Ext.trans ?_ (Ext.alloc _ _) | refine Ext.trans ?_ (drew_ext _) | refine Ext.trans ?_ ba | refine Ext.trans ?_ b11 | refine Ext.trans ?_ b10 | refine Ext.trans ?_ b9 | refine Ext.trans ?_ b8 | refine Ext.trans ?_ b7 | refine Ext.trans ?_ b6 | refine Ext.trans ?_ b5 | refine Ext.trans ?_ b4 | refine Ext.trans ?_ b3 | refine Ext.trans ?_ b2 | refine Ext.trans ?_ b1)) hsz.out _ _ _,_,_,_,_,_,rfl,hsz,Box3.put_at (RA.out.ext (by repeat (first | exact Ext.refl _ | refine Ext.trans ?_ (Ext.alloc _ _) | refine Ext.trans ?_ (drew_ext _) | refine Ext.trans ?_ ba | refine Ext.trans ?_ b11 | refine Ext.trans ?_ b10 | refine Ext.trans ?_ b9 | refine Ext.trans ?_ b8 | refine Ext.trans ?_ b7 | refine Ext.trans ?_ b6 | refine Ext.trans ?_ b5 | refine Ext.trans ?_ b4 | refine Ext.trans ?_ b3 | refine Ext.trans ?_ b2 | refine Ext.trans ?_ b1))) _ _ _,(ON10.out.put_new (by repeat (first | exact Ext.refl _ | refine Ext.trans ?_ (Ext.alloc _ _) | refine Ext.trans ?_ (drew_ext _) | refine Ext.trans ?_ ba | refine Ext.trans ?_ b11 | refine Ext.trans ?_ b10 | refine Ext.trans ?_ b9 | refine Ext.trans ?_ b8 | refine Ext.trans ?_ b7 | refine Ext.trans ?_ b6 | refine Ext.trans ?_ b5 | refine Ext.trans ?_ b4 | refine Ext.trans ?_ b3 | refine Ext.trans ?_ b2 | refine Ext.trans ?_ b1)) (by omega) _ _ _).mono (by omega),(OD10.out.put_new (by repeat (first | exact Ext.refl _ | refine Ext.trans ?_ (Ext.alloc _ _) | refine Ext.trans ?_ (drew_ext _) | refine Ext.trans ?_ ba | refine Ext.trans ?_ b11 | refine Ext.trans ?_ b10 | refine Ext.trans ?_ b9 | refine Ext.trans ?_ b8 | refine Ext.trans ?_ b7 | refine Ext.trans ?_ b6 | refine Ext.trans ?_ b5 | refine Ext.trans ?_ b4 | refine Ext.trans ?_ b3 | refine Ext.trans ?_ b2 | refine Ext.trans ?_ b1)) (by omega) _ _ _).mono (by omega)⟩
     ·skip
      go_simp
      refine hK.out _ _ (D1.out.ext (by repeat (first | exact Ext.refl _ | refine Ext.trans ?_ (Ext.alloc _ _) | refine Ext.trans ?_ (drew_ext _) | refine Ext.trans ?_ ba | refine Ext.trans ?_ b11 | refine Ext.trans ?_ b10 | refine Ext.trans ?_ b9 | refine Ext.trans ?_ b8 | refine Ext.trans ?_ b7 | refine Ext.trans ?_ b6 | refine Ext.trans ?_ b5 | refine Ext.trans ?_ b4 | refine Ext.trans ?_ b3 | refine Ext.trans ?_ b2 | refine Ext.trans ?_ b1))) (fun hHeld=>?_)
      clear hK K
      try simp only [jP,jA,jB,jC,jD,jE,jF]
      obtain ⟨wa,hwa,ba,ra,za⟩:=boxR w9 (.bool false) (.slice none 0 0) (.slice none 0 0) 59
      rw [← hwa] at hHeld ⊢
      have RA:Hid (Room3 wa w9.heap.size):=ra
      have hsz:Hid (w6.heap.size≤w9.heap.size):=Below.size (by repeat (first | exact Ext.refl _ | refine Ext.trans ?_ (Ext.alloc _ _) | refine Ext.trans ?_ (drew_ext _) | refine Ext.trans ?_ ba | refine Ext.trans ?_ b11 | refine Ext.trans ?_ b10 | refine Ext.trans ?_ b9 | refine Ext.trans ?_ b8 | refine Ext.trans ?_ b7 | refine Ext.trans ?_ b6 | refine Ext.trans ?_ b5 | refine Ext.trans ?_ b4 | refine Ext.trans ?_ b3 | refine Ext.trans ?_ b2 | refine Ext.trans ?_ b1))
      have za:wa.heap.size=w9.heap.size+1:=za
      clear hwa ra
      refine rdH 6 (by kernel_rfl) rfl (fun K hK=>?_)
      go_simp
      go_at_call 63;refine (make_any (r:=r) (O8.out.rd.ext (by repeat (first | exact Ext.refl _ | refine Ext.trans ?_ (Ext.alloc _ _) | refine Ext.trans ?_ (drew_ext _) | refine Ext.trans ?_ ba | refine Ext.trans ?_ b11 | refine Ext.trans ?_ b10 | refine Ext.trans ?_ b9 | refine Ext.trans ?_ b8 | refine Ext.trans ?_ b7 | refine Ext.trans ?_ b6 | refine Ext.trans ?_ b5 | refine Ext.trans ?_ b4 | refine Ext.trans ?_ b3 | refine Ext.trans ?_ b2 | refine Ext.trans ?_ b1))) (O9.out.rd.ext (by repeat (first | exact Ext.refl _ | refine Ext.trans ?_ (Ext.alloc _ _) | refine Ext.trans ?_ (drew_ext _) | refine Ext.trans ?_ ba | refine Ext.trans ?_ b11 | refine Ext.trans ?_ b10 | refine Ext.trans ?_ b9 | refine Ext.trans ?_ b8 | refine Ext.trans ?_ b7 | refine Ext.trans ?_ b6 | refine Ext.trans ?_ b5 | refine Ext.trans ?_ b4 | refine Ext.trans ?_ b3 | refine Ext.trans ?_ b2 | refine Ext.trans ?_ b1))) (by omega) (by omega) (by rw [HD.out];exact denOf_ne ys) (by rw [HD.out];exact HRR.out)).mono ?_;rintro e w10 ⟨_,rfl,b10,_,rfl,n10,d10,rfl,on10,od10⟩;have ON10:=Lib.hid on10;have OD10:=Lib.hid od10;clear on10 od10;obtain ⟨an10,cn10,rfl,-,-,-,-⟩:=ON10.out.rd.1.shape;obtain ⟨ad10,cd10,rfl,-,-,-,-⟩:=OD10.out.rd.1.shape
      go_wp2_with fail
      refine hK.out _ _ (D1.out.ext (by repeat (first | exact Ext.refl _ | refine Ext.trans ?_ (Ext.alloc _ _) | refine Ext.trans ?_ (drew_ext _) | refine Ext.trans ?_ ba | refine Ext.trans ?_ b11 | refine Ext.trans ?_ b10 | refine Ext.trans ?_ b9 | refine Ext.trans ?_ b8 | refine Ext.trans ?_ b7 | refine Ext.trans ?_ b6 | refine Ext.trans ?_ b5 | refine Ext.trans ?_ b4 | refine Ext.trans ?_ b3 | refine Ext.trans ?_ b2 | refine Ext.trans ?_ b1))) (fun hHeld=>?_)
      clear hK K
      try simp only [jP,jA,jB,jC,jD,jE,jF]
      refine tkH 7 hHeld ?_
      simp only [jP,jA,jB,jC,jD,jE,jF]
      refine tkH 8 hHeld ?_
      simp only [jP,jA,jB,jC,jD,jE,jF]
      refine tkH 9 hHeld ?_
      simp only [jP,jA,jB,jC,jD,jE,jF]
      obtain ⟨_,_,_,j0,j1,j2,g0,g1,g2⟩:=(RA.out.ext (show Ext wa w10 from (by repeat (first | exact Ext.refl _ | refine Ext.trans ?_ (Ext.alloc _ _) | refine Ext.trans ?_ (drew_ext _) | refine Ext.trans ?_ ba | refine Ext.trans ?_ b11 | refine Ext.trans ?_ b10 | refine Ext.trans ?_ b9 | refine Ext.trans ?_ b8 | refine Ext.trans ?_ b7 | refine Ext.trans ?_ b6 | refine Ext.trans ?_ b5 | refine Ext.trans ?_ b4 | refine Ext.trans ?_ b3 | refine Ext.trans ?_ b2 | refine Ext.trans ?_ b1)))).cells
      refine rdH 11 (by kernel_rfl) rfl (fun K hK=>?_)
      go_simp
      refine hK.out _ _ ((D1.out.ext (show Ext w6 w10 from (by repeat (first | exact Ext.refl _ | refine Ext.trans ?_ (Ext.alloc _ _) | refine Ext.trans ?_ (drew_ext _) | refine Ext.trans ?_ ba | refine Ext.trans ?_ b11 | refine Ext.trans ?_ b10 | refine Ext.trans ?_ b9 | refine Ext.trans ?_ b8 | refine Ext.trans ?_ b7 | refine Ext.trans ?_ b6 | refine Ext.trans ?_ b5 | refine Ext.trans ?_ b4 | refine Ext.trans ?_ b3 | refine Ext.trans ?_ b2 | refine Ext.trans ?_ b1)))).put (c:=w9.heap.size) (by have:=hsz.out;have:=hsq.out;omega) _ _ _) (fun hHeld=>?_)
      clear hK K
      try simp only [jP,jA,jB,jC,jD,jE,jF]
      refine tkH 12 hHeld ?_
      simp only [jP,jA,jB,jC,jD,jE,jF]
      refine wpAnyH_done (by kernel_rfl) ?_ _
      refine NoPanic.normal ?_
      have hd6:w6.drew.heap.size=w6.heap.size:=rfl
      have h8:=b8.size
      have h9:=b9.size
      have h10:=b10.size
      have ha:=ba.size
      have hda:wa.drew.heap.size=wa.heap.size:=rfl
      go_wp2_with fail
      go_meet
      exact ⟨rfl,put3_below (by repeat (first | exact Ext.refl _ | refine Ext.trans ?_ (Ext.alloc _ _) | refine Ext.trans ?_ (drew_ext _) | refine Ext.trans ?_ ba | refine Ext.trans ?_ b11 | refine Ext.trans ?_ b10 | refine Ext.trans ?_ b9 | refine Ext.trans ?_ b8 | refine Ext.trans ?_ b7 | refine Ext.trans ?_ b6 | refine Ext.trans ?_ b5 | refine Ext.trans ?_ b4 | refine Ext.trans ?_ b3 | refine Ext.trans ?_ b2 | refine Ext.trans ?_ b1)) hsz.out _ _ _,_,_,_,_,_,rfl,hsz,Box3.put_at (RA.out.ext (by repeat (first | exact Ext.refl _ | refine Ext.trans ?_ (Ext.alloc _ _) | refine Ext.trans ?_ (drew_ext _) | refine Ext.trans ?_ ba | refine Ext.trans ?_ b11 | refine Ext.trans ?_ b10 | refine Ext.trans ?_ b9 | refine Ext.trans ?_ b8 | refine Ext.trans ?_ b7 | refine Ext.trans ?_ b6 | refine Ext.trans ?_ b5 | refine Ext.trans ?_ b4 | refine Ext.trans ?_ b3 | refine Ext.trans ?_ b2 | refine Ext.trans ?_ b1))) _ _ _,(ON10.out.put_new (by repeat (first | exact Ext.refl _ | refine Ext.trans ?_ (Ext.alloc _ _) | refine Ext.trans ?_ (drew_ext _) | refine Ext.trans ?_ ba | refine Ext.trans ?_ b11 | refine Ext.trans ?_ b10 | refine Ext.trans ?_ b9 | refine Ext.trans ?_ b8 | refine Ext.trans ?_ b7 | refine Ext.trans ?_ b6 | refine Ext.trans ?_ b5 | refine Ext.trans ?_ b4 | refine Ext.trans ?_ b3 | refine Ext.trans ?_ b2 | refine Ext.trans ?_ b1)) (by omega) _ _ _).mono (by omega),(OD10.out.put_new (by repeat (first | exact Ext.refl _ | refine Ext.trans ?_ (Ext.alloc _ _) | refine Ext.trans ?_ (drew_ext _) | refine Ext.trans ?_ ba | refine Ext.trans ?_ b11 | refine Ext.trans ?_ b10 | refine Ext.trans ?_ b9 | refine Ext.trans ?_ b8 | refine Ext.trans ?_ b7 | refine Ext.trans ?_ b6 | refine Ext.trans ?_ b5 | refine Ext.trans ?_ b4 | refine Ext.trans ?_ b3 | refine Ext.trans ?_ b2 | refine Ext.trans ?_ b1)) (by omega) _ _ _).mono (by omega)⟩
    ·skip
     go_simp
     refine hK.out _ _ (D1.out.ext (by repeat (first | exact Ext.refl _ | refine Ext.trans ?_ (Ext.alloc _ _) | refine Ext.trans ?_ (drew_ext _) | refine Ext.trans ?_ ba | refine Ext.trans ?_ b11 | refine Ext.trans ?_ b10 | refine Ext.trans ?_ b9 | refine Ext.trans ?_ b8 | refine Ext.trans ?_ b7 | refine Ext.trans ?_ b6 | refine Ext.trans ?_ b5 | refine Ext.trans ?_ b4 | refine Ext.trans ?_ b3 | refine Ext.trans ?_ b2 | refine Ext.trans ?_ b1))) (fun hHeld=>?_)
     clear hK K
     try simp only [jP,jA,jB,jC,jD,jE,jF]
     obtain ⟨wa,hwa,ba,ra,za⟩:=boxR w8 (.bool false) (.slice none 0 0) (.slice none 0 0) 59
     rw [← hwa] at hHeld ⊢
     have RA:Hid (Room3 wa w8.heap.size):=ra
     have hsz:Hid (w6.heap.size≤w8.heap.size):=Below.size (by repeat (first | exact Ext.refl _ | refine Ext.trans ?_ (Ext.alloc _ _) | refine Ext.trans ?_ (drew_ext _) | refine Ext.trans ?_ ba | refine Ext.trans ?_ b11 | refine Ext.trans ?_ b10 | refine Ext.trans ?_ b9 | refine Ext.trans ?_ b8 | refine Ext.trans ?_ b7 | refine Ext.trans ?_ b6 | refine Ext.trans ?_ b5 | refine Ext.trans ?_ b4 | refine Ext.trans ?_ b3 | refine Ext.trans ?_ b2 | refine Ext.trans ?_ b1))
     have za:wa.heap.size=w8.heap.size+1:=za
     clear hwa ra
     refine rdH 5 (by kernel_rfl) rfl (fun K hK=>?_)
     go_simp
     go_at_call 64;refine (Copy_any (HZ.out.ext (by repeat (first | exact Ext.refl _ | refine Ext.trans ?_ (Ext.alloc _ _) | refine Ext.trans ?_ (drew_ext _) | refine Ext.trans ?_ ba | refine Ext.trans ?_ b11 | refine Ext.trans ?_ b10 | refine Ext.trans ?_ b9 | refine Ext.trans ?_ b8 | refine Ext.trans ?_ b7 | refine Ext.trans ?_ b6 | refine Ext.trans ?_ b5 | refine Ext.trans ?_ b4 | refine Ext.trans ?_ b3 | refine Ext.trans ?_ b2 | refine Ext.trans ?_ b1))) (by omega)).mono ?_;rintro e w9 ⟨v9,rfl,b9,o9⟩;have O9:=Lib.hid o9;clear o9
     go_wp2_with fail
     refine hK.out _ _ (D1.out.ext (by repeat (first | exact Ext.refl _ | refine Ext.trans ?_ (Ext.alloc _ _) | refine Ext.trans ?_ (drew_ext _) | refine Ext.trans ?_ ba | refine Ext.trans ?_ b11 | refine Ext.trans ?_ b10 | refine Ext.trans ?_ b9 | refine Ext.trans ?_ b8 | refine Ext.trans ?_ b7 | refine Ext.trans ?_ b6 | refine Ext.trans ?_ b5 | refine Ext.trans ?_ b4 | refine Ext.trans ?_ b3 | refine Ext.trans ?_ b2 | refine Ext.trans ?_ b1))) (fun hHeld=>?_)
     clear hK K
     try simp only [jP,jA,jB,jC,jD,jE,jF]
     refine rdH 6 (by kernel_rfl) rfl (fun K hK=>?_)
     go_simp
     go_at_call 63;refine (make_any (r:=r) (O8.out.rd.ext (by repeat (first | exact Ext.refl _ | refine Ext.trans ?_ (Ext.alloc _ _) | refine Ext.trans ?_ (drew_ext _) | refine Ext.trans ?_ ba | refine Ext.trans ?_ b11 | refine Ext.trans ?_ b10 | refine Ext.trans ?_ b9 | refine Ext.trans ?_ b8 | refine Ext.trans ?_ b7 | refine Ext.trans ?_ b6 | refine Ext.trans ?_ b5 | refine Ext.trans ?_ b4 | refine Ext.trans ?_ b3 | refine Ext.trans ?_ b2 | refine Ext.trans ?_ b1))) (O9.out.rd.ext (by repeat (first | exact Ext.refl _ | refine Ext.trans ?_ (Ext.alloc _ _) | refine Ext.trans ?_ (drew_ext _) | refine Ext.trans ?_ ba | refine Ext.trans ?_ b11 | refine Ext.trans ?_ b10 | refine Ext.trans ?_ b9 | refine Ext.trans ?_ b8 | refine Ext.trans ?_ b7 | refine Ext.trans ?_ b6 | refine Ext.trans ?_ b5 | refine Ext.trans ?_ b4 | refine Ext.trans ?_ b3 | refine Ext.trans ?_ b2 | refine Ext.trans ?_ b1))) (by omega) (by omega) (by rw [HD.out];exact denOf_ne ys) (by rw [HD.out];exact HRR.out)).mono ?_;rintro e w10 ⟨_,rfl,b10,_,rfl,n10,d10,rfl,on10,od10⟩;have ON10:=Lib.hid on10;have OD10:=Lib.hid od10;clear on10 od10;obtain ⟨an10,cn10,rfl,-,-,-,-⟩:=ON10.out.rd.1.shape;obtain ⟨ad10,cd10,rfl,-,-,-,-⟩:=OD10.out.rd.1.shape
     go_wp2_with fail
     refine hK.out _ _ (D1.out.ext (by repeat (first | exact Ext.refl _ | refine Ext.trans ?_ (Ext.alloc _ _) | refine Ext.trans ?_ (drew_ext _) | refine Ext.trans ?_ ba | refine Ext.trans ?_ b11 | refine Ext.trans ?_ b10 | refine Ext.trans ?_ b9 | refine Ext.trans ?_ b8 | refine Ext.trans ?_ b7 | refine Ext.trans ?_ b6 | refine Ext.trans ?_ b5 | refine Ext.trans ?_ b4 | refine Ext.trans ?_ b3 | refine Ext.trans ?_ b2 | refine Ext.trans ?_ b1))) (fun hHeld=>?_)
     clear hK K
     try simp only [jP,jA,jB,jC,jD,jE,jF]
     refine tkH 7 hHeld ?_
     simp only [jP,jA,jB,jC,jD,jE,jF]
     refine tkH 8 hHeld ?_
     simp only [jP,jA,jB,jC,jD,jE,jF]
     refine tkH 9 hHeld ?_
     simp only [jP,jA,jB,jC,jD,jE,jF]
     obtain ⟨_,_,_,j0,j1,j2,g0,g1,g2⟩:=(RA.out.ext (show Ext wa w10 from (by repeat (first | exact Ext.refl _ | refine Ext.trans ?_ (Ext.alloc _ _) | refine Ext.trans ?_ (drew_ext _) | refine Ext.trans ?_ ba | refine Ext.trans ?_ b11 | refine Ext.trans ?_ b10 | refine Ext.trans ?_ b9 | refine Ext.trans ?_ b8 | refine Ext.trans ?_ b7 | refine Ext.trans ?_ b6 | refine Ext.trans ?_ b5 | refine Ext.trans ?_ b4 | refine Ext.trans ?_ b3 | refine Ext.trans ?_ b2 | refine Ext.trans ?_ b1)))).cells
     refine rdH 11 (by kernel_rfl) rfl (fun K hK=>?_)
     go_simp
     refine hK.out _ _ ((D1.out.ext (show Ext w6 w10 from (by repeat (first | exact Ext.refl _ | refine Ext.trans ?_ (Ext.alloc _ _) | refine Ext.trans ?_ (drew_ext _) | refine Ext.trans ?_ ba | refine Ext.trans ?_ b11 | refine Ext.trans ?_ b10 | refine Ext.trans ?_ b9 | refine Ext.trans ?_ b8 | refine Ext.trans ?_ b7 | refine Ext.trans ?_ b6 | refine Ext.trans ?_ b5 | refine Ext.trans ?_ b4 | refine Ext.trans ?_ b3 | refine Ext.trans ?_ b2 | refine Ext.trans ?_ b1)))).put (c:=w8.heap.size) (by have:=hsz.out;have:=hsq.out;omega) _ _ _) (fun hHeld=>?_)
     clear hK K
     try simp only [jP,jA,jB,jC,jD,jE,jF]
     refine tkH 12 hHeld ?_
     simp only [jP,jA,jB,jC,jD,jE,jF]
     refine wpAnyH_done (by kernel_rfl) ?_ _
     refine NoPanic.normal ?_
     have hd6:w6.drew.heap.size=w6.heap.size:=rfl
     have h8:=b8.size
     have h9:=b9.size
     have h10:=b10.size
     have ha:=ba.size
     have hda:wa.drew.heap.size=wa.heap.size:=rfl
     go_wp2_with fail
     go_meet
     exact ⟨rfl,put3_below (by repeat (first | exact Ext.refl _ | refine Ext.trans ?_ (Ext.alloc _ _) | refine Ext.trans ?_ (drew_ext _) | refine Ext.trans ?_ ba | refine Ext.trans ?_ b11 | refine Ext.trans ?_ b10 | refine Ext.trans ?_ b9 | refine Ext.trans ?_ b8 | refine Ext.trans ?_ b7 | refine Ext.trans ?_ b6 | refine Ext.trans ?_ b5 | refine Ext.trans ?_ b4 | refine Ext.trans ?_ b3 | refine Ext.trans ?_ b2 | refine Ext.trans ?_ b1)) hsz.out _ _ _,_,_,_,_,_,rfl,hsz,Box3.put_at (RA.out.ext (by repeat (first | exact Ext.refl _ | refine Ext.trans ?_ (Ext.alloc _ _) | refine Ext.trans ?_ (drew_ext _) | refine Ext.trans ?_ ba | refine Ext.trans ?_ b11 | refine Ext.trans ?_ b10 | refine Ext.trans ?_ b9 | refine Ext.trans ?_ b8 | refine Ext.trans ?_ b7 | refine Ext.trans ?_ b6 | refine Ext.trans ?_ b5 | refine Ext.trans ?_ b4 | refine Ext.trans ?_ b3 | refine Ext.trans ?_ b2 | refine Ext.trans ?_ b1))) _ _ _,(ON10.out.put_new (by repeat (first | exact Ext.refl _ | refine Ext.trans ?_ (Ext.alloc _ _) | refine Ext.trans ?_ (drew_ext _) | refine Ext.trans ?_ ba | refine Ext.trans ?_ b11 | refine Ext.trans ?_ b10 | refine Ext.trans ?_ b9 | refine Ext.trans ?_ b8 | refine Ext.trans ?_ b7 | refine Ext.trans ?_ b6 | refine Ext.trans ?_ b5 | refine Ext.trans ?_ b4 | refine Ext.trans ?_ b3 | refine Ext.trans ?_ b2 | refine Ext.trans ?_ b1)) (by omega) _ _ _).mono (by omega),(OD10.out.put_new (by repeat (first | exact Ext.refl _ | refine Ext.trans ?_ (Ext.alloc _ _) | refine Ext.trans ?_ (drew_ext _) | refine Ext.trans ?_ ba | refine Ext.trans ?_ b11 | refine Ext.trans ?_ b10 | refine Ext.trans ?_ b9 | refine Ext.trans ?_ b8 | refine Ext.trans ?_ b7 | refine Ext.trans ?_ b6 | refine Ext.trans ?_ b5 | refine Ext.trans ?_ b4 | refine Ext.trans ?_ b3 | refine Ext.trans ?_ b2 | refine Ext.trans ?_ b1)) (by omega) _ _ _).mono (by omega)⟩
   ·skip
    go_simp
    refine hK.out _ _ (D1.out.ext (by repeat (first | exact Ext.refl _ | refine Ext.trans ?_ (Ext.alloc _ _) | refine Ext.trans ?_ (drew_ext _) | refine Ext.trans ?_ ba | refine Ext.trans ?_ b11 | refine Ext.trans ?_ b10 | refine Ext.trans ?_ b9 | refine Ext.trans ?_ b8 | refine Ext.trans ?_ b7 | refine Ext.trans ?_ b6 | refine Ext.trans ?_ b5 | refine Ext.trans ?_ b4 | refine Ext.trans ?_ b3 | refine Ext.trans ?_ b2 | refine Ext.trans ?_ b1))) (fun hHeld=>?_)
    clear hK K
    try simp only [jP,jA,jB,jC,jD,jE,jF]
    obtain ⟨wa,hwa,ba,ra,za⟩:=boxR w6 (.bool false) (.slice none 0 0) (.slice none 0 0) 59
    rw [← hwa] at hHeld ⊢
    have RA:Hid (Room3 wa w6.heap.size):=ra
    have hsz:Hid (w6.heap.size≤w6.heap.size):=Below.size (by repeat (first | exact Ext.refl _ | refine Ext.trans ?_ (Ext.alloc _ _) | refine Ext.trans ?_ (drew_ext _) | refine Ext.trans ?_ ba | refine Ext.trans ?_ b11 | refine Ext.trans ?_ b10 | refine Ext.trans ?_ b9 | refine Ext.trans ?_ b8 | refine Ext.trans ?_ b7 | refine Ext.trans ?_ b6 | refine Ext.trans ?_ b5 | refine Ext.trans ?_ b4 | refine Ext.trans ?_ b3 | refine Ext.trans ?_ b2 | refine Ext.trans ?_ b1))
    have za:wa.heap.size=w6.heap.size+1:=za
    clear hwa ra
    refine rdH 3 (by kernel_rfl) rfl (fun K hK=>?_)
    go_simp
    go_at_call 64;refine (Copy_any (O3.out.rd.ext (by repeat (first | exact Ext.refl _ | refine Ext.trans ?_ (Ext.alloc _ _) | refine Ext.trans ?_ (drew_ext _) | refine Ext.trans ?_ ba | refine Ext.trans ?_ b11 | refine Ext.trans ?_ b10 | refine Ext.trans ?_ b9 | refine Ext.trans ?_ b8 | refine Ext.trans ?_ b7 | refine Ext.trans ?_ b6 | refine Ext.trans ?_ b5 | refine Ext.trans ?_ b4 | refine Ext.trans ?_ b3 | refine Ext.trans ?_ b2 | refine Ext.trans ?_ b1))) (by omega)).mono ?_;rintro e w8 ⟨v8,rfl,b8,o8⟩;have O8:=Lib.hid o8;clear o8
    go_wp2_with fail
    refine hK.out _ _ (D1.out.ext (by repeat (first | exact Ext.refl _ | refine Ext.trans ?_ (Ext.alloc _ _) | refine Ext.trans ?_ (drew_ext _) | refine Ext.trans ?_ ba | refine Ext.trans ?_ b11 | refine Ext.trans ?_ b10 | refine Ext.trans ?_ b9 | refine Ext.trans ?_ b8 | refine Ext.trans ?_ b7 | refine Ext.trans ?_ b6 | refine Ext.trans ?_ b5 | refine Ext.trans ?_ b4 | refine Ext.trans ?_ b3 | refine Ext.trans ?_ b2 | refine Ext.trans ?_ b1))) (fun hHeld=>?_)
    clear hK K
    try simp only [jP,jA,jB,jC,jD,jE,jF]
    refine rdH 5 (by kernel_rfl) rfl (fun K hK=>?_)
    go_simp
    go_at_call 64;refine (Copy_any (HZ.out.ext (by repeat (first | exact Ext.refl _ | refine Ext.trans ?_ (Ext.alloc _ _) | refine Ext.trans ?_ (drew_ext _) | refine Ext.trans ?_ ba | refine Ext.trans ?_ b11 | refine Ext.trans ?_ b10 | refine Ext.trans ?_ b9 | refine Ext.trans ?_ b8 | refine Ext.trans ?_ b7 | refine Ext.trans ?_ b6 | refine Ext.trans ?_ b5 | refine Ext.trans ?_ b4 | refine Ext.trans ?_ b3 | refine Ext.trans ?_ b2 | refine Ext.trans ?_ b1))) (by omega)).mono ?_;rintro e w9 ⟨v9,rfl,b9,o9⟩;have O9:=Lib.hid o9;clear o9
    go_wp2_with fail
    refine hK.out _ _ (D1.out.ext (by repeat (first | exact Ext.refl _ | refine Ext.trans ?_ (Ext.alloc _ _) | refine Ext.trans ?_ (drew_ext _) | refine Ext.trans ?_ ba | refine Ext.trans ?_ b11 | refine Ext.trans ?_ b10 | refine Ext.trans ?_ b9 | refine Ext.trans ?_ b8 | refine Ext.trans ?_ b7 | refine Ext.trans ?_ b6 | refine Ext.trans ?_ b5 | refine Ext.trans ?_ b4 | refine Ext.trans ?_ b3 | refine Ext.trans ?_ b2 | refine Ext.trans ?_ b1))) (fun hHeld=>?_)
    clear hK K
    try simp only [jP,jA,jB,jC,jD,jE,jF]
    refine rdH 6 (by kernel_rfl) rfl (fun K hK=>?_)
    go_simp
    go_at_call 63;refine (make_any (r:=r) (O8.out.rd.ext (by repeat (first | exact Ext.refl _ | refine Ext.trans ?_ (Ext.alloc _ _) | refine Ext.trans ?_ (drew_ext _) | refine Ext.trans ?_ ba | refine Ext.trans ?_ b11 | refine Ext.trans ?_ b10 | refine Ext.trans ?_ b9 | refine Ext.trans ?_ b8 | refine Ext.trans ?_ b7 | refine Ext.trans ?_ b6 | refine Ext.trans ?_ b5 | refine Ext.trans ?_ b4 | refine Ext.trans ?_ b3 | refine Ext.trans ?_ b2 | refine Ext.trans ?_ b1))) (O9.out.rd.ext (by repeat (first | exact Ext.refl _ | refine Ext.trans ?_ (Ext.alloc _ _) | refine Ext.trans ?_ (drew_ext _) | refine Ext.trans ?_ ba | refine Ext.trans ?_ b11 | refine Ext.trans ?_ b10 | refine Ext.trans ?_ b9 | refine Ext.trans ?_ b8 | refine Ext.trans ?_ b7 | refine Ext.trans ?_ b6 | refine Ext.trans ?_ b5 | refine Ext.trans ?_ b4 | refine Ext.trans ?_ b3 | refine Ext.trans ?_ b2 | refine Ext.trans ?_ b1))) (by omega) (by omega) (by rw [HD.out];exact denOf_ne ys) (by rw [HD.out];exact HRR.out)).mono ?_;rintro e w10 ⟨_,rfl,b10,_,rfl,n10,d10,rfl,on10,od10⟩;have ON10:=Lib.hid on10;have OD10:=Lib.hid od10;clear on10 od10;obtain ⟨an10,cn10,rfl,-,-,-,-⟩:=ON10.out.rd.1.shape;obtain ⟨ad10,cd10,rfl,-,-,-,-⟩:=OD10.out.rd.1.shape
    go_wp2_with fail
    refine hK.out _ _ (D1.out.ext (by repeat (first | exact Ext.refl _ | refine Ext.trans ?_ (Ext.alloc _ _) | refine Ext.trans ?_ (drew_ext _) | refine Ext.trans ?_ ba | refine Ext.trans ?_ b11 | refine Ext.trans ?_ b10 | refine Ext.trans ?_ b9 | refine Ext.trans ?_ b8 | refine Ext.trans ?_ b7 | refine Ext.trans ?_ b6 | refine Ext.trans ?_ b5 | refine Ext.trans ?_ b4 | refine Ext.trans ?_ b3 | refine Ext.trans ?_ b2 | refine Ext.trans ?_ b1))) (fun hHeld=>?_)
    clear hK K
    try simp only [jP,jA,jB,jC,jD,jE,jF]
    refine tkH 7 hHeld ?_
    simp only [jP,jA,jB,jC,jD,jE,jF]
    refine tkH 8 hHeld ?_
    simp only [jP,jA,jB,jC,jD,jE,jF]
    refine tkH 9 hHeld ?_
    simp only [jP,jA,jB,jC,jD,jE,jF]
    obtain ⟨_,_,_,j0,j1,j2,g0,g1,g2⟩:=(RA.out.ext (show Ext wa w10 from (by repeat (first | exact Ext.refl _ | refine Ext.trans ?_ (Ext.alloc _ _) | refine Ext.trans ?_ (drew_ext _) | refine Ext.trans ?_ ba | refine Ext.trans ?_ b11 | refine Ext.trans ?_ b10 | refine Ext.trans ?_ b9 | refine Ext.trans ?_ b8 | refine Ext.trans ?_ b7 | refine Ext.trans ?_ b6 | refine Ext.trans ?_ b5 | refine Ext.trans ?_ b4 | refine Ext.trans ?_ b3 | refine Ext.trans ?_ b2 | refine Ext.trans ?_ b1)))).cells
    refine rdH 11 (by kernel_rfl) rfl (fun K hK=>?_)
    go_simp
    refine hK.out _ _ ((D1.out.ext (show Ext w6 w10 from (by repeat (first | exact Ext.refl _ | refine Ext.trans ?_ (Ext.alloc _ _) | refine Ext.trans ?_ (drew_ext _) | refine Ext.trans ?_ ba | refine Ext.trans ?_ b11 | refine Ext.trans ?_ b10 | refine Ext.trans ?_ b9 | refine Ext.trans ?_ b8 | refine Ext.trans ?_ b7 | refine Ext.trans ?_ b6 | refine Ext.trans ?_ b5 | refine Ext.trans ?_ b4 | refine Ext.trans ?_ b3 | refine Ext.trans ?_ b2 | refine Ext.trans ?_ b1)))).put (c:=w6.heap.size) (by have:=hsz.out;have:=hsq.out;omega) _ _ _) (fun hHeld=>?_)
    clear hK K
    try simp only [jP,jA,jB,jC,jD,jE,jF]
    refine tkH 12 hHeld ?_
    simp only [jP,jA,jB,jC,jD,jE,jF]
    refine wpAnyH_done (by kernel_rfl) ?_ _
    refine NoPanic.normal ?_
    have hd6:w6.drew.heap.size=w6.heap.size:=rfl
    have h8:=b8.size
    have h9:=b9.size
    have h10:=b10.size
    have ha:=ba.size
    have hda:wa.drew.heap.size=wa.heap.size:=rfl
    go_wp2_with fail
    go_meet
    exact ⟨rfl,put3_below (by repeat (first | exact Ext.refl _ | refine Ext.trans ?_ (Ext.alloc _ _) | refine Ext.trans ?_ (drew_ext _) | refine Ext.trans ?_ ba | refine Ext.trans ?_ b11 | refine Ext.trans ?_ b10 | refine Ext.trans ?_ b9 | refine Ext.trans ?_ b8 | refine Ext.trans ?_ b7 | refine Ext.trans ?_ b6 | refine Ext.trans ?_ b5 | refine Ext.trans ?_ b4 | refine Ext.trans ?_ b3 | refine Ext.trans ?_ b2 | refine Ext.trans ?_ b1)) hsz.out _ _ _,_,_,_,_,_,rfl,hsz,Box3.put_at (RA.out.ext (by repeat (first | exact Ext.refl _ | refine Ext.trans ?_ (Ext.alloc _ _) | refine Ext.trans ?_ (drew_ext _) | refine Ext.trans ?_ ba | refine Ext.trans ?_ b11 | refine Ext.trans ?_ b10 | refine Ext.trans ?_ b9 | refine Ext.trans ?_ b8 | refine Ext.trans ?_ b7 | refine Ext.trans ?_ b6 | refine Ext.trans ?_ b5 | refine Ext.trans ?_ b4 | refine Ext.trans ?_ b3 | refine Ext.trans ?_ b2 | refine Ext.trans ?_ b1))) _ _ _,(ON10.out.put_new (by repeat (first | exact Ext.refl _ | refine Ext.trans ?_ (Ext.alloc _ _) | refine Ext.trans ?_ (drew_ext _) | refine Ext.trans ?_ ba | refine Ext.trans ?_ b11 | refine Ext.trans ?_ b10 | refine Ext.trans ?_ b9 | refine Ext.trans ?_ b8 | refine Ext.trans ?_ b7 | refine Ext.trans ?_ b6 | refine Ext.trans ?_ b5 | refine Ext.trans ?_ b4 | refine Ext.trans ?_ b3 | refine Ext.trans ?_ b2 | refine Ext.trans ?_ b1)) (by omega) _ _ _).mono (by omega),(OD10.out.put_new (by repeat (first | exact Ext.refl _ | refine Ext.trans ?_ (Ext.alloc _ _) | refine Ext.trans ?_ (drew_ext _) | refine Ext.trans ?_ ba | refine Ext.trans ?_ b11 | refine Ext.trans ?_ b10 | refine Ext.trans ?_ b9 | refine Ext.trans ?_ b8 | refine Ext.trans ?_ b7 | refine Ext.trans ?_ b6 | refine Ext.trans ?_ b5 | refine Ext.trans ?_ b4 | refine Ext.trans ?_ b3 | refine Ext.trans ?_ b2 | refine Ext.trans ?_ b1)) (by omega) _ _ _).mono (by omega)⟩
  case rest=>
   obtain ⟨rfl,b7,B,an,cn,ad,cd,rfl,hB,C4,ON,OD⟩:=hcut
   generalize wc=w7 at*
   have E1:=Lib.hid (D1.out.ext b7)
   go_upto_region 7 with (fail)
   have b8:=drew_ext w7
   have XE:=b8
   refine wp_region_noPanic ?_
   refine wp_region_held_drew (S:=fun w'=>(w'.cell? ⟨w.heap.size,0,none⟩=some (.bool s)∧w'.cell? ⟨w.heap.size,1,none⟩=some (a)∧w'.cell? ⟨w.heap.size,2,none⟩=some (b))∧(w'.cell? ⟨B,0,none⟩=some (.bool (decide (r.num < 0)))∧w'.cell? ⟨B,1,none⟩=some (.slice an (limbs r.num.natAbs).length cn)∧w'.cell? ⟨B,2,none⟩=some (.slice ad (dens r.den).length cd))) (by kernel_rfl) (⟨E1.out.ext XE,C4.out.ext XE⟩) (fun hHeld=>?_)
   refine tkH 0 hHeld ?_
   simp only [jP,jA,jB,jC,jD,jE,jF]
   refine tkH 1 hHeld ?_
   simp only [jP,jA,jB,jC,jD,jE,jF]
   refine tkH 2 hHeld ?_
   simp only [jP,jA,jB,jC,jD,jE,jF]
   refine tkH 3 hHeld ?_
   simp only [jP,jA,jB,jC,jD,jE,jF]
   refine tkH 5 hHeld ?_
   simp only [jP,jA,jB,jC,jD,jE,jF]
   refine rdH 4 (by kernel_rfl) rfl (fun K hK=>?_)
   go_simp
   go_at_call 45;refine (Of_any (O3.out.rd.ext (Ext.trans b4 (Ext.trans b5 (Ext.trans b6 (Ext.trans b7 b8))))) (by omega)).mono ?_;rintro e w9 ⟨v9,rfl,b9,o9⟩;have O9:=Lib.hid o9;clear o9;(first | have XE:=Ext.trans XE b9 | have XE:=Ext.trans (Ext.trans XE (Ext.alloc _ _)) b9)
   go_wp2_with fail
   refine hK.out _ _ (⟨E1.out.ext XE,C4.out.ext XE⟩) (fun hHeld=>?_)
   clear hK K
   try simp only [jP,jA,jB,jC,jD,jE,jF]
   refine rdH 6 (by kernel_rfl) rfl (fun K hK=>?_)
   go_simp
   go_at_call 45;refine (Of_any (HZ.out.ext (Ext.trans b7 (Ext.trans b8 b9))) (by omega)).mono ?_;rintro e w10 ⟨v10,rfl,b10,o10⟩;have O10:=Lib.hid o10;clear o10;(first | have XE:=Ext.trans XE b10 | have XE:=Ext.trans (Ext.trans XE (Ext.alloc _ _)) b10)
   go_wp2_with fail
   refine hK.out _ _ (⟨E1.out.ext XE,C4.out.ext XE⟩) (fun hHeld=>?_)
   clear hK K
   try simp only [jP,jA,jB,jC,jD,jE,jF]
   refine rdH 7 (by kernel_rfl) rfl (fun K hK=>?_)
   go_simp
   go_at_call 46;refine (r5of_to (r:=r) w7.heap.size ((O9.out.ext b10).mono (Nat.le_refl w7.heap.size)) (O10.out.mono b9.size) (Below.size (Ext.trans b8 (Ext.trans b9 b10))) (by have:=blen_nv O3.out.2;omega) (by have:=blen_nv HZ.out.2;omega) (by rw [HD.out];exact denOf_ne ys) (by rw [HD.out];exact HRR.out)).mono ?_;rintro e w11 ⟨_,rfl,b11,n11,d11,rfl,on11,od11⟩;have ON11:=Lib.hid on11;have OD11:=Lib.hid od11;clear on11 od11;obtain ⟨an11,cn11,rfl,-,-,-,-⟩:=ON11.out.rd.shape;obtain ⟨ad11,cd11,rfl,-,-,-,-⟩:=OD11.out.rd.shape;(first | have XE:=Ext.trans XE b11 | have XE:=Ext.trans (Ext.trans XE (Ext.alloc _ _)) b11);obtain ⟨_,_,_,j0,j1,j2,g0,g1,g2⟩:=(D2.out.ext (Ext.trans b7 (Ext.trans b8 (Ext.trans b9 (Ext.trans b10 b11))))).cells;obtain ⟨_,_,_,k0,k1,k2,f0,f1,f2⟩:=(D3.out.ext (Ext.trans b7 (Ext.trans b8 (Ext.trans b9 (Ext.trans b10 b11))))).cells
   go_wp2_with fail
   refine hK.out _ _ (⟨E1.out.ext XE,C4.out.ext XE⟩) (fun hHeld=>?_)
   clear hK K
   try simp only [jP,jA,jB,jC,jD,jE,jF]
   refine rdH 8 (by kernel_rfl) rfl (fun K hK=>?_)
   go_simp
   refine hK.out _ _ (⟨(E1.out.ext XE).put (by omega) _ _ _,(C4.out.ext XE).put (by have:=hB.out;have:=hs6.out;omega) _ _ _⟩) (fun hHeld=>?_)
   clear hK K
   try simp only [jP,jA,jB,jC,jD,jE,jF]
   refine rdH 9 (by kernel_rfl) rfl (fun K hK=>?_)
   go_simp
   refine hK.out _ _ (⟨((E1.out.ext XE).put (by omega) _ _ _).put (by omega) _ _ _,((C4.out.ext XE).put (by have:=hB.out;have:=hs6.out;omega) _ _ _).put (by have:=hB.out;have:=hs6.out;omega) _ _ _⟩) (fun hHeld=>?_)
   clear hK K
   try simp only [jP,jA,jB,jC,jD,jE,jF]
   refine wpAnyH_done (by kernel_rfl) ?_ _
   refine NoPanic.normal ?_
   go_wp2_with fail
   refine bodyPost_ret (v:=.tuple #[.agg #[.bool (decide (r.num < 0)),.slice an (limbs r.num.natAbs).length cn,.slice ad (dens r.den).length cd],.agg #[.bool (decide (r.num < 0)),.slice an11 (bitsOf r.num.natAbs).length cn11,.slice ad11 (bitsOf r.den).length cd11]]) (by simp [results,Tryz.results36,go_sem,j0,j1,j2,k0,k1,k2]) rfl ?_
   have h7:=b7.size
   have h6:=hs6.out
   exact hR.out _ _ (Gives.mk (put3_below (put3_below (Ext.trans b1 (Ext.trans b2 (Ext.trans b3 (Ext.trans b4 (Ext.trans b5 (Ext.trans b6 (Ext.trans b7 (Ext.trans b8 (Ext.trans b9 (Ext.trans b10 b11)))))))))) (by omega) _ _ _) (by omega) _ _ _) ⟨_,_,rfl,⟨_,_,rfl,(((ON.out.ext (Ext.trans b8 (Ext.trans b9 (Ext.trans b10 b11)))).put (by omega) _ _ _).put (by omega) _ _ _).mono (by omega),(((OD.out.ext (Ext.trans b8 (Ext.trans b9 (Ext.trans b10 b11)))).put (by omega) _ _ _).put (by omega) _ _ _).mono (by omega)⟩,⟨_,_,rfl,((ON11.out.put (by omega) _ _ _).put (by omega) _ _ _).mono (by omega),((OD11.out.put (by omega) _ _ _).put (by omega) _ _ _).mono (by omega)⟩⟩)
end Go.Proofs.YtdooldpgnjmpfaaGreatDoor
