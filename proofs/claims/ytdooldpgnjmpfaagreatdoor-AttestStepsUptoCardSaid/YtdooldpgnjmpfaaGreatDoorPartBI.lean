/- A group of texts: PTold, PExpr8, PR8Coef, LinP, PR8Form, PR8Vars, PDelta, PIs05, PDelta2, PSpan, PSpan2 -/
import Derived.Test.YtdooldpgnjmpfaaGreatDoorSq
import Derived.Test.YtdooldpgnjmpfaaGreatDoorPartAC
import Derived.Test.YtdooldpgnjmpfaaGreatDoorPartBD
import Derived.Test.YtdooldpgnjmpfaaGreatDoorPBoth05
import Derived.Test.YtdooldpgnjmpfaaGreatDoorPartBG
import Derived.Test.YtdooldpgnjmpfaaGreatDoorPartAG
import Derived.Test.YtdooldpgnjmpfaaGreatDoorPartBE
import Derived.Test.YtdooldpgnjmpfaaGreatDoorPartAB
import Derived.Test.YtdooldpgnjmpfaaGreatDoorPartBF
namespace Go.Proofs.YtdooldpgnjmpfaaGreatDoor
open Go.RowKit Go.Att

theorem told_any {w:World} {v:Value} {q:Rat} (hq:RdQ w v q) (sq:Sz 1000000 q):
  Calls Tryz.prog 28 #[v] w (Gives w fun v' w'=>OwnP 4 w.heap.size w' v' q):=by
 refine via fun R hR=>?_
 have HQ:=Lib.hid hq
 have SQ:=Lib.hid sq
 have SB:=Lib.hid sq.bits
 obtain ⟨n,d,rfl,-,-⟩:=hq
 obtain ⟨w1,hw1,b1,c1,-,-,r2,-⟩:=bx2 w [.bool (decide (q.num < 0)),n,d] [.bool false,.slice none 0 0,.slice none 0 0] 59 87
 obtain ⟨k0,k1,k2⟩:=c1.c3
 have R2:Hid (Room3 w1 (w.heap.size+1)):=r2.room3
 have hz:=Lib.hid r2.lt
 have HW:=Lib.hid hw1
 have hl:(((bitsOf q.den).length:Int) == 0)=false:=beqF (by have:=bits_len_pos.2 q.den_pos;omega)
 have HSELF:Hid (mkQ (decide (q.num < 0)) q.num.natAbs q.den=q):=mkQ_self q
 clear sq c1 r2 hw1
 go_enter Tryz.func28,Tryz.ntmps28
 go_upto_region 1 with (fail)
 rw [← HW.out]
 clear HW
 go_wp2_with fail
 clear k0 k1 k2
 refine (parts_any (HQ.out.ext b1) SQ.out.1 SQ.out.2).mono ?_
 rintro e w2 ⟨_,rfl,b2,v2,v3,rfl,o2,o3⟩
 have O2:=Lib.hid o2
 have OD:=Lib.hid o3
 clear o2 o3
 go_wp2_with fail
 refine (Of_any OD.out.rd (by have:=SQ.out.2;omega)).mono ?_
 rintro e w3 ⟨v4,rfl,b3,o4⟩
 rw [nv_limbs] at o4
 obtain ⟨a4,c4,rfl,-,-,-,-⟩:=o4.rd.shape
 clear o4
 go_wp2_with fail
 refine (Of_any (O2.out.rd.ext b3) (by have:=SQ.out.1;omega)).mono ?_
 rintro e w4 ⟨v5,rfl,b4,o5⟩
 rw [nv_limbs] at o5
 have O5:=Lib.hid o5
 clear o5
 go_wp2_with fail
 refine (Of_any (OD.out.rd.ext (Ext.trans b3 b4)) (by have:=SQ.out.2;omega)).mono ?_
 rintro e w5 ⟨v6,rfl,b5,o6⟩
 rw [nv_limbs] at o6
 have O6:=Lib.hid o6
 clear o6
 have z1:w3.heap.size≤w4.heap.size:=Below.size b4
 have z2:w4.heap.size≤w5.heap.size:=Below.size b5
 go_wp2_with fail
 refine (HSELF.out ▸ r5of_any (B:=w3.heap.size) (s:=decide (q.num < 0)) (n:=q.num.natAbs) (d:=q.den) (by omega) (O5.out.ext b5) (O6.out.mono (by omega)) (by have:=SB.out.1;omega) (by have:=SB.out.2;omega) q.den_nz).mono ?_
 rintro e w6 ⟨_,rfl,b6,n7,d7,rfl,on,od⟩
 obtain ⟨an,cn,rfl,-,-,-,-⟩:=on.rd.shape
 obtain ⟨ad,cd,rfl,-,-,-,-⟩:=od.rd.shape
 have ON:=Lib.hid on
 have OD7:=Lib.hid od
 obtain ⟨_,_,_,j0,j1,j2,g0,g1,g2⟩:=(R2.out.ext (Ext.trans b2 (Ext.trans b3 (Ext.trans b4 (Ext.trans b5 b6))))).cells
 clear on od
 go_wp2_with fail
 refine bodyPost_ret (v:=.agg #[.bool (decide (q.num < 0)),.slice an (bitsOf q.num.natAbs).length cn,.slice ad (bitsOf q.den).length cd]) (by simp [results,Tryz.results28,go_sem,j0,j1,j2]) rfl ?_
 have hs:=(Ext.trans b2 b3).size
 exact hR.out _ _ (Gives.mk (put3_below (Ext.trans b1 (Ext.trans b2 (Ext.trans b3 (Ext.trans b4 (Ext.trans b5 b6))))) (by omega) _ _ _) ⟨_,_,rfl,(OwnB.put3 ON.out (Ext.refl _) (by have:=hz.out;omega) _ _ _).mono (by have:=hz.out;omega),(OwnB.put3 OD7.out (Ext.refl _) (by have:=hz.out;omega) _ _ _).mono (by have:=hz.out;omega)⟩)

theorem of8_any {w:World} {v:Value} {s:Bool} {xs ys:List Nat} (hv:RdN w v s xs ys) (hx:xs.length≤1000000000) (hy:ys.length≤1000000000):
  Calls Tryz.prog 22 #[v] w (Gives w fun v' w'=>OwnQ 119 w.heap.size w' v' (qOf s xs ys)):=by
 refine via fun R hR=>?_
 have HV:=Lib.hid hv
 have HB:Hid (∀ {w v},RdN w v s xs ys→Calls Tryz.prog 36 #[v] w (Gives w fun v' w'=>∃ o1 o2,v'=.tuple #[o1,o2]∧OwnQ 119 w.heap.size w' o1 (qOf s xs ys)∧OwnP 4 w.heap.size w' o2 (qOf s xs ys))):=fun h=>both_any h hx hy
 generalize qOf s xs ys=q at*
 obtain ⟨y1,y2,rfl,-,-⟩:=hv
 obtain ⟨w1,hw1,b1,c1,-,-,r2,-⟩:=bx2 w [.bool s,y1,y2] [.bool false,.slice none 0 0,.slice none 0 0] 71 59
 obtain ⟨k0,k1,k2⟩:=c1.c3
 have R2:Hid (Room3 w1 (w.heap.size+1)):=r2.room3
 have hz:=Lib.hid r2.lt
 have HW:=Lib.hid hw1
 clear c1 r2 hw1
 go_enter Tryz.func22,Tryz.ntmps22
 go_upto_region 1 with (fail)
 rw [← HW.out]
 clear HW
 go_wp2_with fail
 clear k0 k1 k2
 refine (HB.out (HV.out.ext b1)).mono ?_
 rintro e w2 ⟨_,rfl,b2,_,_,rfl,⟨n,d,rfl,on,od⟩,⟨m,c,rfl,om,oc⟩⟩
 obtain ⟨an,cn,rfl,-,-,-,-⟩:=on.rd.1.shape
 obtain ⟨ad,cd,rfl,-,-,-,-⟩:=od.rd.1.shape
 obtain ⟨am,cm,rfl,-,-,-,-⟩:=om.rd.shape
 obtain ⟨ac,cc,rfl,-,-,-,-⟩:=oc.rd.shape
 obtain ⟨w3,hw,b3,c1,-,-,-,-⟩:=bx2 w2 [.bool (decide (q.num < 0)),.slice an (limbs q.num.natAbs).length cn,.slice ad (dens q.den).length cd] [.bool (decide (q.num < 0)),.slice am (bitsOf q.num.natAbs).length cm,.slice ac (bitsOf q.den).length cc] 59 87
 have HW:=Lib.hid hw
 have ON:=Lib.hid on
 have OD:=Lib.hid od
 obtain ⟨k0,k1,k2⟩:=c1.c3
 obtain ⟨_,_,_,j0,j1,j2,g0,g1,g2⟩:=(R2.out.ext (Ext.trans b2 b3)).cells
 clear hw c1 on od om oc
 go_upto_region 2 with (fail)
 rw [← HW.out]
 clear HW
 go_wp2_with fail
 refine bodyPost_ret (v:=.agg #[.bool (decide (q.num < 0)),.slice an (limbs q.num.natAbs).length cn,.slice ad (dens q.den).length cd]) (by simp [results,Tryz.results22,go_sem,j0,j1,j2]) rfl ?_
 exact hR.out _ _ (Gives.mk (put3_below (Ext.trans b1 (Ext.trans b2 b3)) (by omega) _ _ _) ⟨_,_,rfl,(ON.out.put_new b3 (by have:=hz.out;omega) _ _ _).mono (by have:=hz.out;omega),(OD.out.put_new b3 (by have:=hz.out;omega) _ _ _).mono (by have:=hz.out;omega)⟩)

open Go.RowKit Go.Att

theorem of8_p {w:World} {v:Value} {n:NN} (h:RdNp w v n) (hn:Nlt 1000000000 n):Calls Tryz.prog 22 #[v] w (Gives w fun v' w'=>OwnQ 119 w.heap.size w' v' (qN n)):=of8_any h hn.1 hn.2
theorem tL_snoc {l:List (Int × NN)} {j:Nat} (hj:j < l.length):(l.take (j+1)).map qT=(l.take j).map qT ++ [(l[j].1,qN l[j].2)]:=by
 rw [← List.take_append_getElem hj,List.map_append];rfl
set_option linter.unusedSimpArgs false in
set_option maxHeartbeats 4000000 in
set_option maxRecDepth 100000 in
theorem expr8_any {w:World} {v:Value} {l:List (Int × NN)} {n:NN} (hv:RdNE w v l n) (hs:∀ t∈l,Nlt 1000000000 t.2) (hn:Nlt 1000000000 n):
  Calls Tryz.prog 32 #[v] w (Gives w fun v' w'=>OwnX w.heap.size w' v' (tL l) (qN n)):=by
 refine via fun R hR=>?_
 unfold tL at hR
 have HS:=Lib.hid hs
 have HN:=Lib.hid hn
 obtain ⟨sl,y,z,rfl,hrow,hc⟩:=hv
 obtain ⟨a,k,rfl,hlk,hkm⟩:=hrow.shape
 unfold maxLen at hkm
 have HRW:=Lib.hid hrow
 have HRC:=Lib.hid hc
 obtain ⟨sg,hsg⟩:∃ sg,n.1=sg:=⟨_,rfl⟩
 rw [hsg] at HRC ⊢
 clear hrow hc hs hn hsg
 obtain ⟨w1,hw1,b1,c2,c3,r2,r3,-⟩:=bx2 w [.slice a l.length k,.bool sg,y,z] [.slice none 0 0,.bool false,.slice none 0 0,.slice none 0 0] 73 61
 have HW:=Lib.hid hw1
 have C2:=Lib.hid c2
 have R2:Hid (Rt w1 (w.heap.size+1) 4 61):=by
  show Rt _ _ _ _
  rw [hw1]
  have:=Rt.new (w.alloc (.cells #[.slice a l.length k,.bool sg,y,z] 73)) [.slice none 0 0,.bool false,.slice none 0 0,.slice none 0 0] 61
  simpa using this
 clear c2 c3 r2 r3 hw1
 go_enter Tryz.func32,Tryz.ntmps32
 go_upto_region 1 with (fail)
 rw [← HW.out]
 clear HW
 obtain ⟨j0,j1,j2,j3⟩:=C2.out.c4
 go_wp2_with fail
 refine (of8_p (HRC.out.ext b1) HN.out).mono ?_
 rintro e w2 ⟨_,rfl,b2,o2⟩
 obtain ⟨s7,a7,l7,c7,a6,l6,c6,rfl,O2⟩:=o2.op
 clear o2 j0 j1 j2 j3
 obtain ⟨w3,hw3,b3,c3,hr3,-⟩:=bx1 w2 [.slice none 0 0,.bool s7,.slice a7 l7 c7,.slice a6 l6 c6] 61
 have HW:=Lib.hid hw3
 have R3:Hid (Rt w3 w2.heap.size 4 61):=by
  show Rt _ _ _ _
  rw [hw3]
  exact Rt.new w2 [.slice none 0 0,.bool s7,.slice a7 l7 c7,.slice a6 l6 c6] 61
 have C3:=Lib.hid c3
 clear hw3 c3 hr3
 go_upto_region 2 with (fail)
 rw [← HW.out]
 clear HW
 obtain ⟨BO,hBO⟩:∃ BO,w2.heap.size=BO:=⟨_,rfl⟩
 have h12:=b2.size
 rw [hBO] at R3 C3 ⊢
 have hBO1:w1.heap.size≤BO:=by omega
 clear hBO h12
 generalize qN n=c at*
 go_wp2_with fail
 go_loopw [4] (fun t wr=>∃ (j:Nat) (ao:Option Addr) (ko:Nat),t=.int .i64 j∧j≤l.length∧j≤12∧Ext w1 wr∧Hid (Bx wr BO [.slice ao ((l.take j).map qT).length ko,.bool s7,.slice a7 l7 c7,.slice a6 l6 c6])∧Hid (Rt wr BO 4 61)∧Hid (OwnQ 119 0 wr (.agg #[.bool s7,.slice a7 l7 c7,.slice a6 l6 c6]) c)∧Hid (OwnRow 4 (OwnTm 119) 90 w1.heap.size wr (.slice ao ((l.take j).map qT).length ko) ((l.take j).map qT))) (fun t _=>l.length - (intOf t).toNat)
 case atStart=>exact ⟨0,none,0,rfl,Nat.zero_le _,Nat.zero_le _,Ext.trans b2 b3,by rw [List.take_zero];exact C3.out,R3.out,(O2.out.mono (Nat.zero_le _)).ext b3,by rw [List.take_zero];exact OwnRow.nil _ _ _⟩
 case round=>
  clear O2 C3 R3
  obtain ⟨j,ao,ko,rfl,hj,hj12,hx,hC,hRt,hQ,hO⟩:=hrel
  obtain ⟨j0,j1,j2,j3⟩:=(C2.out.ext hx).c4
  by_cases hjl:j < l.length
  ·have hd:decide ((j:Int) < (l.length:Int))=true:=decide_eq_true (by omega)
   have hd':decide (j < l.length)=true:=decide_eq_true hjl
   by_cases hj2:j < 12
   ·have hd2:decide ((j:Int) < 12)=true:=decide_eq_true (by omega)
    obtain ⟨bT,oT,rfl⟩:=HRW.out.some_atN hjl
    obtain ⟨yy,zz,hB4,hQT⟩:=HRW.out.nt j hjl
    have hJ1:IntKind.i64.wrap (j:Int)=(j:Int):=by rw [IntKind.wrap_i64];omega
    have hJ2:(0:Int)≤(j:Int)∧(j:Int) < (l.length:Int):=⟨by omega,by omega⟩
    have HSN:=Lib.hid (tL_snoc hjl)
    have HOL:Hid (((l.take j).map qT).length=j):=by show _=_;rw [List.length_map,List.length_take];omega
    have HSQ:Hid (Nlt 1000000000 l[j].2):=HS.out _ (List.getElem_mem hjl)
    have HQT:=Lib.hid (RdNp.ext hQT (Ext.trans b1 hx))
    have DB:=Lib.hid (hB4.ext (Ext.trans b1 hx))
    have DBX:=Lib.hid (hB4.ext b1)
    obtain ⟨u,hu⟩:∃ u,l[j].1=u:=⟨_,rfl⟩
    obtain ⟨q4,hq4⟩:∃ q4,qN l[j].2=q4:=⟨_,rfl⟩
    have HOF:Hid (∀ w v,RdNp w v l[j].2→Calls Tryz.prog 22 #[v] w (Gives w fun v' w'=>OwnQ 119 w.heap.size w' v' q4)):=fun w v h=>hq4 ▸ of8_p h HSQ.out
    rw [hu] at DB DBX HSN
    rw [hq4] at HSN
    generalize l[j].2=nn4 at*
    obtain ⟨sb,hsb⟩:∃ sb,nn4.1=sb:=⟨_,rfl⟩
    rw [hsb] at DB DBX HQT
    clear hB4 hQT hu hsb
    obtain ⟨ol,hol⟩:∃ ol,(l.take j).map qT=ol:=⟨_,rfl⟩
    rw [hol] at hC hO HOL HSN
    clear hol
    obtain ⟨ol2,hol2⟩:∃ ol2,ol ++ [(u,q4)]=ol2:=⟨_,rfl⟩
    have HS2:=Lib.hid hol2
    rw [hol2] at HSN
    clear hol2
    obtain ⟨w4,hw4⟩:∃ w0:World,w0=wr:=⟨_,rfl⟩
    subst hw4
    have C24:=Lib.hid (C2.out.ext hx)
    have neO:=hO.out.ne_rt hRt.out (by decide)
    go_wp2_with fail
    clear j0 j1 j2 j3
    have b5:=drew_ext w4
    have XE:=b5
    refine wp_region_noPanic ?_
    refine wp_region_last_drew (st:=19) (S:=fun w'=>(w'.cell? ⟨BO,0,none⟩=some (.slice ao ol.length ko))∧(w'.cell? ⟨w.heap.size,0,none⟩=some (.slice (some ⟨bT,oT,none⟩) l.length k))∧(w'.cell? ⟨bT,oT+j*4,none⟩=some (.int .i64 u)∧w'.cell? ⟨bT,oT+j*4+1,none⟩=some (.bool sb)∧w'.cell? ⟨bT,oT+j*4+2,none⟩=some (yy)∧w'.cell? ⟨bT,oT+j*4+3,none⟩=some (zz))) (by kernel_rfl) (⟨(hC.out.ext XE).c1,(C24.out.ext XE).c1,DB.out.ext XE⟩) (fun hHeld=>?_)
    refine tkL 0 hHeld ?_
    simp only [jP,jA,jB,jC,jD,jE,jF]
    refine tkL 1 hHeld ?_
    simp only [jP,jA,jB,jC,jD,jE,jF]
    refine tkL 2 hHeld ?_
    simp only [jP,jA,jB,jC,jD,jE,jF]
    refine tkL 3 hHeld ?_
    simp only [jP,jA,jB,jC,jD,jE,jF]
    refine tkL 4 hHeld ?_
    simp only [jP,jA,jB,jC,jD,jE,jF]
    refine tkL 5 hHeld ?_
    simp only [jP,jA,jB,jC,jD,jE,jF]
    refine tkL 6 hHeld ?_
    simp only [jP,jA,jB,jC,jD,jE,jF]
    refine tkL 7 hHeld ?_
    simp only [jP,jA,jB,jC,jD,jE,jF]
    refine tkL 8 hHeld ?_
    simp only [jP,jA,jB,jC,jD,jE,jF]
    refine tkL 9 hHeld ?_
    simp only [jP,jA,jB,jC,jD,jE,jF]
    refine tkL 10 hHeld ?_
    simp only [jP,jA,jB,jC,jD,jE,jF]
    refine tkL 11 hHeld ?_
    simp only [jP,jA,jB,jC,jD,jE,jF]
    refine tkL 12 hHeld ?_
    simp only [jP,jA,jB,jC,jD,jE,jF]
    refine tkL 13 hHeld ?_
    simp only [jP,jA,jB,jC,jD,jE,jF]
    refine rdL 14 (by kernel_rfl) rfl (fun K hK=>?_)
    go_simp
    go_at_call 22;refine (HOF.out _ _ (RdNp.ext HQT.out XE)).mono ?_;rintro e w6 ⟨v6,rfl,b6,o6⟩;have O6:=Lib.hid o6;clear o6;(first | have XE:=Ext.trans XE b6 | have XE:=Ext.trans (Ext.trans XE (Ext.alloc _ _)) b6);obtain ⟨s6,e6,n6,g6,f6,m6,h6,rfl,P6⟩:=O6.out.op
    go_wp2_with fail
    refine hK.out _ _ (⟨(hC.out.ext XE).c1,(C24.out.ext XE).c1,DB.out.ext XE⟩) (fun hHeld=>?_)
    clear hK K
    try simp only [jP,jA,jB,jC,jD,jE,jF]
    refine tkL 15 hHeld ?_
    simp only [jP,jA,jB,jC,jD,jE,jF]
    refine rdL 16 (by kernel_rfl) rfl (fun K hK=>?_)
    go_simp
    refine hK.out _ _ (⟨(hC.out.ext (Ext.trans XE (Ext.alloc _ _))).c1,(C24.out.ext (Ext.trans XE (Ext.alloc _ _))).c1,DB.out.ext (Ext.trans XE (Ext.alloc _ _))⟩) (fun hHeld=>?_)
    clear hK K
    try simp only [jP,jA,jB,jC,jD,jE,jF]
    refine rdL 17 (by kernel_rfl) rfl (fun K hK=>?_)
    refine if_wantedL rfl ?_
    refine append_row (y:=(u,q4)) etTm (kdT (e:=119) (by decide)) _ _ (by rfl) w1.heap.size (by rfl) _ (by rfl) (hO.out.ext OwnTm.ext XE) rfl ⟨_,_,_,rfl,P6.out.mono (Nat.zero_le _)⟩ (Below.size (Ext.trans hx XE)) (by have:=HOL.out;omega) (by have:=HOL.out;unfold maxLen;omega) ?_
    intro v9 w9 o9 b9 g9
    have xA:=Ext.trans XE (Ext.alloc w6 (.cells #[.int .i64 u,.bool s6,.slice e6 n6 g6,.slice f6 m6 h6] 90))
    have RO9:=Lib.hid ((hRt.out.ext xA).grow g9 neO)
    have DO9:=Lib.hid ((hC.out.ext xA).grow g9 neO)
    obtain ⟨nn,xs,hown⟩:=((hO.out.ext OwnTm.ext xA)).own
    have HQ9:=Lib.hid (OwnQ.grown (hQ.out.ext xA) hown (by decide) g9)
    have XW:=Below.trans hx (Below.trans (Below.mono XE (Below.size hx)) b9)
    have DB9:=DBX.out.ext (show Ext w1 w9 from XW)
    rw [HS2.out] at o9
    obtain ⟨a11,k11,rfl,-,-⟩:=o9.rd.shape
    refine hK.out _ _ ⟨DO9.out.c1,(C2.out.ext (show Ext w1 w9 from XW)).c1,DB9⟩ (fun hHeld=>?_)
    clear hK K
    try simp only [jP,jA,jB,jC,jD,jE,jF]
    refine tkL 18 hHeld ?_
    simp only [jP,jA,jB,jC,jD,jE,jF]
    obtain ⟨_,_,_,_,n0,n1,n2,n3,i0,i1,i2,i3⟩:=RO9.out.c4
    refine wpAnyL_ready (rs:=[19]) (by kernel_rfl) (by simp) ?_
    refine AllReadyL.last (o:=_) rfl (fun K hK=>?_)
    go_simp
    refine hK.out _ _ ?_
    clear hK K
    try simp only [jP,jA,jB,jC,jD,jE,jF]
    refine wpAnyL_done (by kernel_rfl) ?_ _
    refine NoPanic.normal ?_
    go_wp2_with fail
    go_roundw
    case rel=>exact ⟨j+1,a11,k11,by go_num,by omega,by omega,putL_below hBO1 [_] 0 XW,by
     rw [HSN.out]
     exact DO9.out.set0 RO9.out (by decide) _,RO9.out.set0 _,HQ9.out.putT RO9.out (by decide) 0 [_],by
     rw [HSN.out]
     exact o9.putT RO9.out (by decide) 0 [_] (fun v a h=>h.putT RO9.out (by decide) 0 [_])⟩
    case measure=>simp [intOf] <;> omega
   ·have hd2:decide ((j:Int) < 12)=false:=decide_eq_false (by omega)
    have HT12:Hid ((l.take j).map qT=(l.take 12).map qT):=(by show _=_;rw [show j=12 by omega])
    rw [HT12.out] at hC hO
    clear j0 j1 j2 j3
    generalize (l.take 12).map qT=ol at*
    obtain ⟨k0,k1,k2,k3⟩:=hC.out.c4
    obtain ⟨j0,j1,j2,j3⟩:=(C2.out.ext hx).c4
    have RR:=Lib.hid (R2.out.ext hx)
    have h01:w.heap.size≤w1.heap.size:=Below.size b1
    obtain ⟨_,_,_,_,n0,n1,n2,n3,i0,i1,i2,i3⟩:=RR.out.c4
    go_wp2_with fail
    refine bodyPost_ret (v:=.agg #[.slice ao ol.length ko,.bool s7,.slice a7 l7 c7,.slice a6 l6 c6]) (by simp [results,Tryz.results32,go_sem,n0,n1,n2,n3]) rfl ?_
    exact hR.out _ _ (Gives.mk (put4_below (Ext.trans b1 hx) (by omega) _ _ _ _ _) (OwnEx.putT ⟨_,_,_,_,rfl,hO.out.mono h01,hQ.out⟩ RR.out (by decide) (by decide) 0 [_,_,_,_]))
  ·have hd:decide ((j:Int) < (l.length:Int))=false:=decide_eq_false (by omega)
   have hd':decide (j < l.length)=false:=decide_eq_false hjl
   have HT12:Hid ((l.take j).map qT=(l.take 12).map qT):=(by show _=_;rw [List.take_of_length_le (show l.length≤j by omega),List.take_of_length_le (show l.length≤12 by omega)])
   rw [HT12.out] at hC hO
   clear j0 j1 j2 j3
   generalize (l.take 12).map qT=ol at*
   obtain ⟨k0,k1,k2,k3⟩:=hC.out.c4
   obtain ⟨j0,j1,j2,j3⟩:=(C2.out.ext hx).c4
   have RR:=Lib.hid (R2.out.ext hx)
   have h01:w.heap.size≤w1.heap.size:=Below.size b1
   obtain ⟨_,_,_,_,n0,n1,n2,n3,i0,i1,i2,i3⟩:=RR.out.c4
   go_wp2_with fail
   refine bodyPost_ret (v:=.agg #[.slice ao ol.length ko,.bool s7,.slice a7 l7 c7,.slice a6 l6 c6]) (by simp [results,Tryz.results32,go_sem,n0,n1,n2,n3]) rfl ?_
   exact hR.out _ _ (Gives.mk (put4_below (Ext.trans b1 hx) (by omega) _ _ _ _ _) (OwnEx.putT ⟨_,_,_,_,rfl,hO.out.mono h01,hQ.out⟩ RR.out (by decide) (by decide) 0 [_,_,_,_]))
open Go.RowKit Go.Att

abbrev RdY (w:World) (v:Value) (l:TL) (c:Rat):Prop:=RdEy 4 w v l c
theorem FormT.take {l:TL} (h:FormT l) (j:Nat):FormT (l.take j):=⟨h.1.sublist (List.take_sublist j l),fun t ht=>h.2 t (List.mem_of_mem_take ht)⟩
theorem FormT.cf_sz {K:Nat} {l:TL} (h:FormT l) (hK:1≤K) (hs:∀ t∈l,Sz K t.2) (x:Int):Sz K (cf l x):=by
 by_cases h0:cf l x=0
 ·rw [h0];exact Sz.zero.le hK
 ·obtain ⟨t,ht,e⟩:=(h.mem x).2 h0
  subst e
  rw [h.at ht]
  exact hs t ht
set_option linter.unusedSimpArgs false in
set_option maxHeartbeats 4000000 in
set_option maxRecDepth 100000 in
theorem r8coef_any {w:World} {v:Value} {l:TL} {c:Rat} {x:Int} (K:Nat) (hv:RdY w v l c) (hs:∀ t∈l,Sz K t.2) (hz:∀ j,Sz K (cf (l.take j) x)) (hl:l.length≤1000) (hK:K≤1500):
  Calls Tryz.prog 74 #[v,.int .i64 x] w (Gives w fun v' w'=>OwnP 4 0 w' v' (cf l x)):=by
 refine via fun R hR=>?_
 have HS:=Lib.hid hs
 obtain ⟨a,k,s,b,m,d,b',m',d',rfl,hlk,hkm,HRW,HRC⟩:=hv.op
 clear hv
 have HSZ:=Lib.hid hz
 clear hs hz
 obtain ⟨w1,hw1,b1,c1,c2,r1,r2,-⟩:=bx2 w [.slice a l.length k,.bool s,.slice b m d,.slice b' m' d'] [.bool false,.slice none 0 0,.slice none 0 0] 110 87
 have HW:=Lib.hid hw1
 have C1:=Lib.hid c1
 have R2:Hid (Rt w1 (w.heap.size+1) 3 87):=by
  show Rt _ _ _ _
  rw [hw1]
  have:=Rt.new (w.alloc (.cells #[.slice a l.length k,.bool s,.slice b m d,.slice b' m' d'] 110)) [.bool false,.slice none 0 0,.slice none 0 0] 87
  simpa using this
 clear c1 c2 r1 r2 hw1
 have HI:Hid (∀ w,Calls Tryz.prog 66 #[.int .i64 0] w (Gives w fun v' w'=>OwnP 4 w.heap.size w' v' 0)):=fun w=>by
  have h:=r5int_any (w:=w) (u:=0) (by omega)
  have e:((0:Int):Rat)=0:=by decide +kernel
  rwa [e] at h
 go_enter Tryz.func74,Tryz.ntmps74
 go_upto_region 1 with (fail)
 rw [← HW.out]
 clear HW
 go_wp2_with fail
 refine (HI.out _).mono ?_
 rintro e w2 ⟨_,rfl,b2,o2⟩
 obtain ⟨s8,a8,l8,c8,a7,l7,c7,rfl,O2⟩:=o2.op
 clear o2
 obtain ⟨w3,hw3,b3,hC3⟩:∃ W,W=w2.alloc (.cells #[.bool s8,.slice a8 l8 c8,.slice a7 l7 c7] 87)∧Ext w2 W∧Bp 4 87 W w2.heap.size 0:=⟨_,rfl,Ext.alloc _ _,Bp.new (O2.out.mono (Nat.zero_le _))⟩
 have HW:=Lib.hid hw3
 clear hw3 O2
 go_upto_region 2 with (fail)
 rw [← HW.out]
 clear HW
 have k0:=(C1.out.ext (Ext.trans b2 b3)).c1
 go_wp2_with fail
 clear k0
 go_loopw [12] (fun t wr=>∃ j:Nat,t=.int .i64 j∧j≤l.length∧Ext w2 wr∧Hid (Bp 4 87 wr w2.heap.size (cf (l.take j) x))) (fun t _=>l.length - (intOf t).toNat)
 case atStart=>exact ⟨0,rfl,Nat.zero_le _,b3,by rw [List.take_zero];exact hC3⟩
 case round=>
  clear hC3
  obtain ⟨j,rfl,hj,hx,hC⟩:=hrel
  by_cases hjl:j < l.length
  ·have hd:decide ((j:Int) < (l.length:Int))=true:=decide_eq_true (by omega)
   obtain ⟨bT,oT,rfl⟩:=HRW.out.some_atP hjl
   obtain ⟨sx,ax,lx,mx,ay,ly,my,hB4,hQ4⟩:=HRW.out.tp j hjl
   have b0r:=Ext.trans b1 (Ext.trans b2 hx)
   obtain ⟨u0,u1,u2,u3⟩:=hB4.ext b0r
   have hJ1:IntKind.i64.wrap (j:Int)=(j:Int):=by rw [IntKind.wrap_i64];omega
   have hJ2:(0:Int)≤(j:Int)∧(j:Int) < (l.length:Int):=⟨by omega,by omega⟩
   have HSN:=Lib.hid (cf_snoc hjl x)
   obtain ⟨y,hy⟩:∃ y,(gt l j).1=y:=⟨_,rfl⟩
   obtain ⟨q4,hq4⟩:∃ q4,(gt l j).2=q4:=⟨_,rfl⟩
   have HSQ:Hid (Sz K q4):=by rw [← hq4,gt_lt hjl];exact HS.out _ (List.getElem_mem hjl)
   rw [hy,hq4] at HSN
   rw [hy] at u0
   rw [hq4] at hQ4
   have HQ4:=Lib.hid (hQ4.ext b0r)
   clear hy hq4 hB4 hQ4
   obtain ⟨w4,hw4,b4,c4,-,-⟩:=bx1 wr [.int .i64 y,.bool sx,.slice ax lx mx,.slice ay ly my] 186
   have HW:=Lib.hid hw4
   have C4:=Lib.hid c4
   clear hw4 c4
   go_upto_region 5 with (fail)
   rw [← HW.out]
   clear HW u0 u1 u2 u3
   obtain ⟨u0,u1,u2,u3⟩:=C4.out.c4
   have hC4:=Lib.hid (hC.out.ext b4)
   by_cases hyx:y=x
   ·have he:(y != x)=false:=bneF hyx
    rw [if_pos hyx] at HSN
    obtain ⟨s0,e1,n1,g1,e2,n2,g2,T1,T2,T3⟩:=hC4.out.op
    obtain ⟨k0,k1,k2⟩:=T1.out.c3
    have HSG:Hid (Calls Tryz.prog 71 #[.agg #[.bool s0,.slice e1 n1 g1,.slice e2 n2 g2]] w4 (Gives w4 fun v' _=>v'=.int .i64 (cf (l.take j) x).num.sign)):=r5sign_any T3.out.rd
    clear hyx
    by_cases hz:cf (l.take j) x=0
    ·rw [hz,Rat.zero_add] at HSN
     have hs0:(cf (l.take j) x).num.sign=0:=by rw [hz];rfl
     rw [hs0] at HSG
     clear hz hs0
     go_wp2_with fail
     refine HSG.out.mono ?_
     rintro e w5 ⟨_,rfl,b5,rfl⟩
     clear k0 k1 k2
     obtain ⟨_,_,_,k0,k1,k2,i0,i1,i2⟩:=(T2.out.ext b5).rm.c3
     obtain ⟨u0,u1,u2,u3⟩:=(C4.out.ext b5).c4
     go_wp2_with fail
     go_roundw
     case rel=>exact ⟨j+1,by go_num,by omega,put3_below (Ext.trans hx (Ext.trans b4 b5)) (Nat.le_refl _) _ _ _,by rw [HSN.out];exact Bp.set (T2.out.ext b5) (by decide) ((HQ4.out.ext b4).ext b5)⟩
     case measure=>simp [intOf] <;> omega
    ·have hs0:((cf (l.take j) x).num.sign == 0)=false:=beqF fun h=>hz (num_sign_zero.1 h)
     have HJZ:=Lib.hid (HSZ.out j)
     generalize (cf (l.take j) x).num.sign=sg at*
     clear hz
     go_wp2_with fail
     refine HSG.out.mono ?_
     rintro e w5 ⟨_,rfl,b5,rfl⟩
     clear k0 k1 k2
     obtain ⟨k0,k1,k2⟩:=(T1.out.ext b5).c3
     obtain ⟨u0,u1,u2,u3⟩:=(C4.out.ext b5).c4
     go_wp2_with fail
     refine (r5add_any (T3.out.rd.ext b5) (HQ4.out.rd.ext (Ext.trans b4 b5)) (HJZ.out.bits.le (by omega)) (HSQ.out.bits.le (by omega))).mono ?_
     rintro e w6 ⟨_,rfl,b6,o6⟩
     rw [← HSN.out] at o6
     obtain ⟨s9,a9,l9,c9,a6,l6,c6,rfl,O6⟩:=o6.op
     clear o6 k0 k1 k2
     obtain ⟨_,_,_,k0,k1,k2,i0,i1,i2⟩:=(T2.out.ext (Ext.trans b5 b6)).rm.c3
     go_wp2_with fail
     go_roundw
     case rel=>exact ⟨j+1,by go_num,by omega,put3_below (Ext.trans hx (Ext.trans b4 (Ext.trans b5 b6))) (Nat.le_refl _) _ _ _,Bp.set (T2.out.ext (Ext.trans b5 b6)) (by decide) (O6.out.mono (Nat.zero_le _))⟩
     case measure=>simp [intOf] <;> omega
   ·have he:(y != x)=true:=bneT hyx
    rw [if_neg hyx,Rat.add_zero] at HSN
    clear hyx
    go_wp2_with fail
    go_roundw
    case rel=>exact ⟨j+1,by go_num,by omega,Ext.trans hx b4,by rw [HSN.out];exact hC4.out⟩
    case measure=>simp [intOf] <;> omega
  ·obtain rfl:j=l.length:=by omega
   have hd:decide ((l.length:Int) < (l.length:Int))=false:=decide_eq_false (by omega)
   obtain ⟨s0,e1,n1,g1,e2,n2,g2,T1,T2,T3⟩:=hC.out.op
   obtain ⟨k0,k1,k2⟩:=T1.out.c3
   have RR:=Lib.hid (R2.out.ext (Ext.trans b2 hx))
   obtain ⟨_,_,_,j0,j1,j2,i0,i1,i2⟩:=RR.out.rm.c3
   go_wp2_with fail
   refine bodyPost_ret (v:=.agg #[.bool s0,.slice e1 n1 g1,.slice e2 n2 g2]) (by simp [results,Tryz.results74,go_sem,j0,j1,j2]) rfl ?_
   exact hR.out _ _ (Gives.mk (put3_below (Ext.trans b1 (Ext.trans b2 hx)) (Nat.le_succ _) _ _ _) (by
    rw [List.take_length] at T3
    exact T3.out.putT RR.out (by decide) 0 [_,_,_]))
open Go.RowKit Go.Att

theorem FormT.szs {K:Nat} {l:TL} (h:FormT l) (hc:∀ x,Sz K (cf l x)):∀ t∈l,Sz K t.2:=fun t ht=>by rw [← FormT.at h ht];exact hc t.1
def Okx (K:Nat) (l:TL) (c:Rat):Prop:=l.length≤1000∧(∀ t∈l,Sz K t.2)∧(∀ x j,Sz K (cf (l.take j) x))∧Sz K c
theorem Okx.of {K L n:Nat} {l:TL} {c:Rat} (h:∀ t∈l,Sz L t.2) (hl:l.length≤n) (hn:n≤1000) (hc:Sz L c) (hK:n*(L+1)+1+L≤K):Okx K l c:=by
 have h1:l.length*(L+1)≤n*(L+1):=Nat.mul_le_mul_right _ hl
 exact ⟨by omega,fun t ht=>(h t ht).le (by omega),fun x j=>(cf_take_sz h j x).le (by omega),hc.le (by omega)⟩
theorem Okx.cf {K:Nat} {l:TL} {c:Rat} (h:Okx K l c) (x:Int):Sz K (cf l x):=by
 have:=h.2.2.1 x l.length
 rwa [List.take_length] at this
theorem Okx.le {K M:Nat} {l:TL} {c:Rat} (h:Okx K l c) (hM:K≤M):Okx M l c:=⟨h.1,fun t ht=>(h.2.1 t ht).le hM,fun x j=>(h.2.2.1 x j).le hM,h.2.2.2.le hM⟩
theorem tL_sz {w:World} {v:Value} {l:List (Int × NN)} {n:NN} (hv:RdNE w v l n):(∀ t∈tL l,Sz 8 t.2)∧Sz 8 (qN n):=by
 obtain ⟨s,y,z,rfl,hrow,⟨_,_,_,h3,h4⟩⟩:=hv
 refine ⟨fun p hp=>?_,qOf_sz h3.2 h4.2⟩
 obtain ⟨q,hq,rfl⟩:=List.mem_map.1 hp
 obtain ⟨i,hi,rfl⟩:=List.getElem_of_mem (List.mem_of_mem_take hq)
 obtain ⟨a,c,rfl,-,-⟩:=hrow.shape
 obtain ⟨_,_,cs,-,-,hT,-⟩:=hrow.at (by decide) i hi
 obtain ⟨_,_,-,⟨_,_,_,h1,h2⟩⟩:=hT
 exact qOf_sz h1.2 h2.2
theorem qN_sz {w:World} {v:Value} {n:NN} (hv:RdNp w v n):Sz 8 (qN n):=by
 obtain ⟨_,_,_,h3,h4⟩:=hv
 exact qOf_sz h3.2 h4.2
open Go.RowKit Go.Att

theorem form_take_iff {l:TL} {j:Nat} (h:FormT (l.take j)) (hj:j < l.length):FormT (l.take (j+1))↔(gt l j).2≠0∧(0 < j→(gt l (j - 1)).1 < (gt l j).1):=by
 rw [← List.take_append_getElem hj,← gt_lt hj]
 constructor
 ·intro h2
  refine ⟨h2.2 _ (List.mem_append_right _ List.mem_cons_self),fun h0=>?_⟩
  have h3:=(List.pairwise_append.1 h2.1).2.2
  refine h3 _ ?_ _ List.mem_cons_self
  rw [gt_lt (show j - 1 < l.length by omega)]
  exact List.mem_take_iff_getElem.2 ⟨j - 1,by omega,rfl⟩
 ·rintro ⟨h2,h3⟩
  refine h.snoc (fun u hu=>?_) h2
  obtain ⟨i,hi,rfl⟩:=List.mem_take_iff_getElem.1 hu
  have hi':i < j:=by omega
  have h4:=h3 (by omega)
  by_cases hij:i=j - 1
  ·subst hij
   rwa [gt_lt (show j - 1 < l.length by omega)] at h4
  ·have h5:=List.pairwise_iff_getElem.1 h.1 i (j - 1) (by rw [List.length_take];omega) (by rw [List.length_take];omega) (by omega)
   simp only [List.getElem_take] at h5
   rw [gt_lt (show j - 1 < l.length by omega)] at h4
   omega
theorem FormT.no {l:TL} {j:Nat} (h:FormT (l.take j)) (hj:j < l.length) (hn:¬ ((gt l j).2≠0∧(0 < j→(gt l (j - 1)).1 < (gt l j).1))):¬ FormT l:=fun h2=>hn ((form_take_iff h hj).1 (FormT.take h2 _))
open Go.RowKit Go.Att

def RdYp (w:World) (v:Value) (p:TL × Rat):Prop:=RdY w v p.1 p.2
theorem RdYp.ext {w w':World} {v:Value} {p:TL × Rat} (h:RdYp w v p) (x:Ext w w'):RdYp w' v p:=RdEy.ext h x
def NxI (y:Int) (us:List Int) (m:Nat) (d:Bool) (ns:List Int):Prop:=(us.Nodup→ns.Nodup)∧ns.length≤m+d.toNat∧∀ x,x∈ns↔(x∈us.take m∧x≠y)∨(d=true∧x=y)
theorem nodup_snoc {l:List Int} {x:Int} (h:l.Nodup) (hx:x ∉ l):(l ++ [x]).Nodup:=by
 rw [List.nodup_append]
 exact ⟨h,by simp,fun a ha b hb=>by rw [List.mem_singleton.1 hb];exact fun e=>hx (e ▸ ha)⟩
theorem NxI.ins {y:Int} {us ns:List Int} {m:Nat} (h:NxI y us m false ns):NxI y us m true (ns ++ [y]):=⟨fun hu=>nodup_snoc (h.1 hu) fun hy=>by
 rcases (h.2.2 y).1 hy with g | g
 ·exact g.2 rfl
 ·exact absurd g.1 (by decide),by have:=h.2.1;simp at this ⊢;omega,fun x=>by
 rw [List.mem_append,h.2.2 x,List.mem_singleton]
 simp⟩
theorem NxI.put {y u:Int} {us ns:List Int} {m:Nat} {d:Bool} (h:NxI y us m d ns) (hm:m < us.length) (hu:us[m]=u) (hne:u≠y):NxI y us (m+1) d (ns ++ [u]):=⟨fun hn=>nodup_snoc (h.1 hn) fun hy=>by
 rcases (h.2.2 u).1 hy with g | g
 ·rw [← List.take_append_drop m us,List.nodup_append] at hn
  refine hn.2.2 u g.1 u ?_ rfl
  rw [← hu]
  exact List.mem_drop_iff_getElem.2 ⟨0,by simpa using hm,by simp⟩
 ·exact hne g.2,by have:=h.2.1;simp at this ⊢;omega,fun x=>by
 rw [← List.take_append_getElem hm,List.mem_append,List.mem_append,h.2.2 x,List.mem_singleton,List.mem_singleton,hu]
 constructor
 ·rintro (h | h)
  ·rcases h with h | h
   ·exact .inl ⟨.inl h.1,h.2⟩
   ·exact .inr h
  ·exact .inl ⟨.inr h,h ▸ hne⟩
 ·rintro (⟨h | h,h2⟩ | h)
  ·exact .inl (.inl ⟨h,h2⟩)
  ·exact .inr h
  ·exact .inl (.inr h)⟩
theorem NxI.skip {y u:Int} {us ns:List Int} {m:Nat} {d:Bool} (h:NxI y us m d ns) (hm:m < us.length) (hu:us[m]=u) (hne:u=y):NxI y us (m+1) d ns:=⟨h.1,by have:=h.2.1;omega,fun x=>by
 rw [← List.take_append_getElem hm,List.mem_append,h.2.2 x,List.mem_singleton,hu]
 constructor
 ·rintro (h | h)
  ·exact .inl ⟨.inl h.1,h.2⟩
  ·exact .inr h
 ·rintro (⟨h | h,h2⟩ | h)
  ·exact .inl ⟨h,h2⟩
  ·exact absurd (h.trans hne) h2
  ·exact .inr h⟩
theorem NxI.fin {y:Int} {us ns:List Int} (h:NxI y us us.length true ns):ns.length≤us.length+1∧(us.Nodup→ns.Nodup)∧∀ x,x∈ns↔x∈us∨x=y:=⟨h.2.1,h.1,fun x=>by
 rw [h.2.2 x,List.take_length]
 constructor
 ·rintro (h | h)
  ·exact .inl h.1
  ·exact .inr h.2
 ·intro h
  by_cases hx:x=y
  ·exact .inr ⟨rfl,hx⟩
  ·exact .inl ⟨h.resolve_right hx,hx⟩⟩
open Go.RowKit Go.Att

open Go.RowKit Go.Att

open Go.RowKit Go.Att

open Go.RowKit Go.Att

def mx (x y:Rat):Rat:=if 0≤(x - y).num.sign then x else y
open Go.RowKit Go.Att

end Go.Proofs.YtdooldpgnjmpfaaGreatDoor
