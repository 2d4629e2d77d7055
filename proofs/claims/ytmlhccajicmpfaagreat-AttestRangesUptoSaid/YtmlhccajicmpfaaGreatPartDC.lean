/- A group of texts: PPCheck, PWidthsL -/
import Derived.Test.YtmlhccajicmpfaaGreatSq
import Derived.Test.YtmlhccajicmpfaaGreatPartBI
import Derived.Test.YtmlhccajicmpfaaGreatPartDB
import Derived.Test.YtmlhccajicmpfaaGreatPartCH
import Derived.Test.YtmlhccajicmpfaaGreatPartCI
import Derived.Test.YtmlhccajicmpfaaGreatPartDA
import Derived.Test.YtmlhccajicmpfaaGreatPartBH
set_option maxHeartbeats 40000000
set_option maxRecDepth 100000
set_option linter.unusedSimpArgs false
namespace Go.Att
open Go.RowKit

theorem RdRow.sp {e:TypeId} {w:World} {a:Option Addr} {n c:Nat} {l:List (Rat × Rat)} (h:RdRow 6 (OwnDp e) w (.slice a n c) l) (i:Nat) (hi:i < l.length):
  ∃ b off s x k m x' k' m' t y q r y' q' r',a=some ⟨b,off,none⟩∧Bo w b (off+i*6) [.bool s,.slice x k m,.slice x' k' m',.bool t,.slice y q r,.slice y' q' r']∧OwnQ e 0 w (.agg #[.bool s,.slice x k m,.slice x' k' m']) l[i].1∧OwnQ e 0 w (.agg #[.bool t,.slice y q r,.slice y' q' r']) l[i].2:=by
 obtain ⟨b1,o1,cs,he,hl,hT,hc⟩:=h.at dC i hi
 obtain ⟨s,x,k,m,x',k',m',t,y,q,r,y',q',r',hv,hO⟩:=OwnD.op hT
 have hcs:cs=[.bool s,.slice x k m,.slice x' k' m',.bool t,.slice y q r,.slice y' q' r']:=by simpa using hv
 subst hcs
 exact ⟨b1,o1,s,x,k,m,x',k',m',t,y,q,r,y',q',r',he,Bo.of hc,hO.out.fstQ,hO.out.sndQ⟩
end Go.Att
namespace Go.Proofs.YtmlhccajicmpfaaGreat
open Go.RowKit Go.Att

theorem sign_sub_le {a b:Rat} (h:a≤b):¬ 0 < (a - b).num.sign:=by
 intro h1
 have h2:=sggt.1 h1
 grind
def PrOk (p:Pr (Rat × Rat) AT) (i o:Int):Prop:=
 chkF p.2.2 p.2.1.length=0∧p.2.1.length≤200∧1≤i∧i≤32∧1≤o∧o≤32∧(p.1.length:Int)=i∧(∀ s∈p.1,s.1≤s.2)∧∀ a∈p.2.1,1≤a.2∧a.2≤3∧∀ t∈a.1.1,0≤t.1∧t.1 < i+o
theorem pclo_any {w:World} {b b':Nat} {i o z:Int} {s:Bool} {x y:Value} (hi:w.cell? ⟨b,0,none⟩=some (.int .i64 i)) (ho:w.cell? ⟨b',0,none⟩=some (.int .i64 o)) (h0:0≤z) (h1:z < i+o) (hb:0≤i∧i≤32∧0≤o∧o≤32) (hx:∃ a n c,x=.slice a n c) (hy:∃ a n c,y=.slice a n c):
  Calls Tryz.prog 114 #[.agg #[.int .i64 z,.bool s,x,y],.pointer (some ⟨b,0,none⟩),.pointer (some ⟨b',0,none⟩)] w (Gives w fun v' _=>v'=.bool false):=by
 refine via fun R hR=>?_
 obtain ⟨a1,n1,c1,rfl⟩:=hx
 obtain ⟨a2,n2,c2,rfl⟩:=hy
 obtain ⟨w1,hw1,b1,c4,-,-⟩:=bx1 w [.int .i64 z,.bool s,.slice a1 n1 c1,.slice a2 n2 c2] 224
 have HW:=qH hw1
 obtain ⟨j0,j1,j2,j3⟩:=c4.c4
 have e0:=Ext.cell b1 hi
 have e1:=Ext.cell b1 ho
 have d1:decide (z < 0)=false:=decide_eq_false oM
 have d2:decide (z ≥ i+o)=false:=decide_eq_false oM
 have d2':decide (i+o≤z)=false:=decide_eq_false oM
 have hw:IntKind.i64.wrap (i+o)=i+o:=by rw [IntKind.wrap_i64];omega
 clear hw1 c4 h0 h1 hb hi ho
 go_enter Tryz.func114,Tryz.ntmps114
 go_upto_region 1 with (fail)
 rw [← HW.out]
 clear HW
 go_wp2_with fail
 exact hR.out _ _ (Gives.mk b1 rfl)
theorem pidx_any {w:World} {b b':Nat} {i o:Int} {a:Option Addr} {c:Nat} {l:TL} (hv:RdRow 4 (OwnTm 156) w (.slice a l.length c) l) (hl:l.length≤100000) (hi:w.cell? ⟨b,0,none⟩=some (.int .i64 i)) (ho:w.cell? ⟨b',0,none⟩=some (.int .i64 o)) (hb:0≤i∧i≤32∧0≤o∧o≤32) (hz:∀ t∈l,0≤t.1∧t.1 < i+o):
  Calls Tryz.prog 141 #[.slice a l.length c,.func (.func 114) #[] #[.pointer (some ⟨b,0,none⟩),.pointer (some ⟨b',0,none⟩)]] w (Gives w fun v' _=>v'=.int .i64 (-1)):=by
 refine via fun R hR=>?_
 have HV:=qH hv
 have HI:=qH hi
 have HO:=qH ho
 have HZ:=qH hz
 have HB:=qH hb
 have HL:=qH hl
 clear hv hi ho hz hb hl
 go_enter Tryz.func141,Tryz.ntmps141
 go_wp2_with fail
 go_loopw [8] (fun t wr=>∃ j:Nat,t=.int .i64 j∧j≤l.length∧Ext w wr) (fun t _=>l.length - (intOf t).toNat)
 case atStart=>exact ⟨0,rfl,Nat.zero_le _,Ext.refl _⟩
 case round=>
  obtain ⟨j,rfl,hj,hx⟩:=hrel
  by_cases hjl:j < l.length
  ·have hd:=dT ((j:Int) < (l.length:Int))
   have HJ1:IntKind.i64.wrap ((j:Int)+1)=((j+1:Nat):Int):=by have:=HL.out;rw [IntKind.wrap_i64];omega
   have hJ2:(0:Int)≤(j:Int)∧(j:Int) < (l.length:Int):=⟨by omega,by omega⟩
   obtain ⟨bT,oT,hae⟩:=(HV.out.ext OwnTm.ext hx).some_at hjl
   subst hae
   obtain ⟨s,x,k,m,x',k',m',⟨u0,u1,u2,u3⟩,-⟩:=(HV.out.ext OwnTm.ext hx).tm j hjl
   have hzz:=HZ.out (gt l j) (by rw [gt_lt hjl];exact List.getElem_mem hjl)
   have HC:=qH (pclo_any (s:=s) (x:=.slice x k m) (y:=.slice x' k' m') (Ext.cell hx HI.out) (Ext.cell hx HO.out) hzz.1 hzz.2 HB.out ⟨_,_,_,rfl⟩ ⟨_,_,_,rfl⟩)
   generalize (gt l j).1=z at*
   clear hzz
   go_wp2_with fail
   refine HC.out.mono ?_
   rintro e w4 ⟨_,rfl,b4,rfl⟩
   go_wp2_with fail
   go_roundw
   case rel=>exact ⟨j+1,by go_num,by omega,eT hx b4⟩
   simp [intOf]<;>omega
  obtain rfl:j=l.length:=by omega
  have hd:=dF ((l.length:Int) < (l.length:Int))
  go_wp2_with fail
  exact hR.out _ _ (Gives.mk hx rfl)
theorem pcont_any {w:World} {b b':Nat} {i o:Int} {a:Option Addr} {c:Nat} {l:TL} (hv:RdRow 4 (OwnTm 156) w (.slice a l.length c) l) (hl:l.length≤100000) (hi:w.cell? ⟨b,0,none⟩=some (.int .i64 i)) (ho:w.cell? ⟨b',0,none⟩=some (.int .i64 o)) (hb:0≤i∧i≤32∧0≤o∧o≤32) (hz:∀ t∈l,0≤t.1∧t.1 < i+o):
  Calls Tryz.prog 113 #[.slice a l.length c,.func (.func 114) #[] #[.pointer (some ⟨b,0,none⟩),.pointer (some ⟨b',0,none⟩)]] w (Gives w fun v' _=>v'=.bool false):=by
 refine via fun R hR=>?_
 have HC:=qH (pidx_any hv hl hi ho hb hz)
 clear hv hz hi ho
 go_enter Tryz.func113,Tryz.ntmps113
 go_wp2_with fail
 refine HC.out.mono ?_
 rintro e w1 ⟨_,rfl,b1,rfl⟩
 go_wp2_with fail
 exact hR.out _ _ (Gives.mk b1 rfl)
theorem pcheck_ok {w:World} {v:Value} {p:Pr (Rat × Rat) AT} {i o:Int} (hv:RdPr SnD OwnA w v p) (hp:PrOk p i o) (hs:∀ s∈p.1,Sz 10000000 s.1∧Sz 10000000 s.2) (ht:∀ a∈p.2.1,a.1.1.length≤100000):
  Calls Tryz.prog 77 #[v,.int .i64 i,.int .i64 o] w (Gives w fun v' _=>v'=.int .i64 0):=by
 refine via fun R hR=>?_
 obtain ⟨a,c,a',c',x,k,rfl,hB,hA,hF⟩:=hv.op
 obtain ⟨hk,h200,hi1,hi2,ho1,ho2,hbl,hbs,has⟩:=hp
 have HBX:=qH hB
 have HAT:=qH hA
 have HBS:=qH hbs
 have HAS:=qH has
 have HSZ:=qH hs
 have HTL:=qH ht
 have HIO:Hid (0≤i∧i≤32∧0≤o∧o≤32∧p.1.length≤32∧p.2.1.length≤200):=⟨by omega,hi2,by omega,ho2,by omega,h200⟩
 obtain ⟨w1,hw1,b1,c1,-,hs1⟩:=bx1 w [.slice a p.1.length c,.slice a' p.2.1.length c',.int .i64 p.2.2.k,.int .i64 p.2.2.a,.slice x p.2.2.sub.length k] 51
 obtain ⟨w2,hw2,b2,c2,c3,-,-,-⟩:=bx2 w1 [.int .i64 i] [.int .i64 o] 3 3
 rw [hs1] at c2 c3
 have HW1:=qH hw1
 have HW2:=qH hw2
 have C1:=qH (c1.ext b2)
 have C2:=qH c2
 have C3:=qH c3
 have b02:=eT b1 b2
 have HC:=qH (checkF_any (k:=p.2.1.length) (hF.ext b02))
 rw [hk] at HC
 obtain ⟨j0,j1,j2,j3,j4⟩:=C1.out.c5
 have j5:=C2.out.c1
 have j6:=C3.out.c1
 have d1:decide ((p.2.1.length:Int) > 200)=false:=decide_eq_false oM
 have d1':decide ((200:Int) < (p.2.1.length:Int))=false:=decide_eq_false oM
 have d2:decide (i < 1)=false:=decide_eq_false oM
 have d3:decide (o < 1)=false:=decide_eq_false oM
 have d4:decide (i > 32)=false:=decide_eq_false oM
 have d4':decide (32 < i)=false:=decide_eq_false oM
 have d5:decide (o > 32)=false:=decide_eq_false oM
 have d5':decide (32 < o)=false:=decide_eq_false oM
 have d6:((p.1.length:Int) != i)=false:=bneF oM
 clear hs1
 clear hw1 hw2 c1 c2 c3 hv hk h200 hi1 hi2 ho1 ho2 hbl hbs has hs ht hB hA hF b1 b2
 generalize p.2.2.k=fk at*
 generalize p.2.2.a=fa at*
 generalize p.2.2.sub.length=fn at*
 obtain ⟨bx,ats,fm⟩:=p
 dsimp only at*
 go_enter Tryz.func77,Tryz.ntmps77
 go_upto_region 1 with (fail)
 rw [← HW1.out]
 rw [← HW2.out]
 clear HW1 HW2
 go_wp2_with fail
 refine HC.out.mono ?_
 rintro e w3 ⟨_,rfl,b3,rfl⟩
 have b03:=eT b02 b3
 clear j0 j1 j2 j3 j4 j5 j6 HC
 obtain ⟨j0,j1,j2,j3,j4⟩:=(C1.out.ext b3).c5
 have j5:=(C2.out.ext b3).c1
 have j6:=(C3.out.ext b3).c1
 go_wp2_with fail
 clear d1 d1' d2 d3 d4 d4' d5 d5' d6 j0 j1 j2 j3 j4 j5 j6
 go_loopw [54] (fun t wr=>∃ j:Nat,t=.int .i64 j∧j≤bx.length∧Ext w3 wr) (fun t _=>bx.length - (intOf t).toNat)
 case atStart=>exact ⟨0,rfl,Nat.zero_le _,Ext.refl _⟩
 case round=>
  obtain ⟨j,rfl,hj,hx⟩:=hrel
  obtain ⟨wo,hwo⟩:∃ w0:World,w0=wr:=⟨_,rfl⟩
  subst hwo
  by_cases hjl:j < bx.length
  ·have hd:=dT ((j:Int) < (bx.length:Int))
   have HJ2:(0:Int)≤(j:Int)∧(j:Int) < (bx.length:Int):=⟨by omega,by omega⟩
   have HJ1:IntKind.i64.wrap ((j:Int)+1)=((j+1:Nat):Int):=by have:=HIO.out;rw [IntKind.wrap_i64];omega
   obtain ⟨bL,oL,s,x0,k0,m0,x1,k1,m1,t,y0,q0,r0,y1,q1,r1,hae,hbo,hq0,hq1⟩:=(HBX.out.ext snd_ext (eT b03 hx)).sp j hjl
   subst hae
   have hmem:=List.getElem_mem hjl
   have hle:=HBS.out _ hmem
   have hsz:=HSZ.out _ hmem
   have HSG:Hid (decide (0 < (bx[j].1 - bx[j].2).num.sign)=false):=decide_eq_false (sign_sub_le hle)
   have HSZ2:=qH hsz
   obtain ⟨e,he⟩:∃ e,bx[j]=e:=⟨_,rfl⟩
   rw [he] at hq0 hq1 HSG HSZ2
   clear he hmem hle hsz
   obtain ⟨u0,u1,u2,u3,u4,u5⟩:=hbo.c6
   obtain ⟨w4,hw4,b4,c4,-,-⟩:=bx1 wo [.bool s,.slice x0 k0 m0,.slice x1 k1 m1,.bool t,.slice y0 q0 r0,.slice y1 q1 r1] 74
   have HW:=qH hw4
   have C4:=qH c4
   have HCM:=qH (rcmp_any (hq0.ext b4).rd (hq1.ext b4).rd HSZ2.out.1 HSZ2.out.2)
   obtain ⟨z,hz⟩:∃ z,(e.1 - e.2).num.sign=z:=⟨_,rfl⟩
   rw [hz] at HCM HSG
   have hd0:=HSG.out
   have hd1:decide (z > 0)=false:=HSG.out
   clear hw4 c4 hbo hz HSG HSZ2 hq0 hq1
   go_upto_region 9 with (fail)
   rw [← HW.out]
   clear HW u0 u1 u2 u3 u4 u5
   obtain ⟨u0,u1,u2,u3,u4,u5⟩:=C4.out.c6
   go_wp2_with fail
   refine HCM.out.mono ?_
   rintro e w5 ⟨_,rfl,b5,rfl⟩
   go_wp2_with fail
   go_roundw
   case rel=>exact ⟨j+1,by go_num,by omega,eT hx (eT b4 b5)⟩
   simp [intOf]<;>omega
  obtain rfl:j=bx.length:=by omega
  have hd:=dF ((bx.length:Int) < (bx.length:Int))
  obtain ⟨j0,j1,j2,j3,j4⟩:=(C1.out.ext (eT b3 hx)).c5
  go_wp2_with fail
  clear hd j0 j1 j2 j3 j4
  go_loopw [68] (fun t wr=>∃ j:Nat,t=.int .i64 j∧j≤ats.length∧Ext wo wr) (fun t _=>ats.length - (intOf t).toNat)
  case atStart=>exact ⟨0,rfl,Nat.zero_le _,Ext.refl _⟩
  case round=>
   obtain ⟨j,rfl,hj2,hx2⟩:=hrel
   obtain ⟨w6,hw6⟩:∃ w0:World,w0=wr:=⟨_,rfl⟩
   subst hw6
   have hxx:=eT hx hx2
   by_cases hjl:j < ats.length
   ·have hd:=dT ((j:Int) < (ats.length:Int))
    have HJ2:(0:Int)≤(j:Int)∧(j:Int) < (ats.length:Int):=⟨by omega,by omega⟩
    have HJ1:IntKind.i64.wrap ((j:Int)+1)=((j+1:Nat):Int):=by have:=HIO.out;rw [IntKind.wrap_i64];omega
    obtain ⟨bL,oL,x0,k0,s,y,mm,dd,y',m',d',hae,hbo,hE⟩:=(HAT.out.ext OwnAt.ext (eT b03 hxx)).atm j hjl
    subst hae
    have hmem:=List.getElem_mem hjl
    have HOP:=qH (HAS.out _ hmem)
    have HTN:=qH (HTL.out _ hmem)
    obtain ⟨e,he⟩:∃ e,ats[j]=e:=⟨_,rfl⟩
    rw [he] at hbo hE HOP HTN
    clear he hmem
    obtain ⟨u0,u1,u2,u3,u4⟩:=hbo.c5
    obtain ⟨w4,hw4,b4,c4,-,-⟩:=bx1 w6 [.slice x0 e.1.1.length k0,.bool s,.slice y mm dd,.slice y' m' d',.int .i64 e.2] 144
    have HW:=qH hw4
    have C4:=qH c4
    have HOA:OwnA w4 (.agg #[.slice x0 e.1.1.length k0,.bool s,.slice y mm dd,.slice y' m' d',.int .i64 e.2]) e:=⟨_,_,_,_,rfl,hE.ext b4⟩
    have HCK:=qH (check9_any HOA)
    rw [show chk e.2=0 by unfold chk;rw [if_pos ⟨HOP.out.1,HOP.out.2.1⟩]] at HCK
    obtain ⟨_,_,_,_,_,_,_,_,_,hv,-,-,hrow,-⟩:=hE.rd.op
    have hrow2:Hid (RdRow 4 (OwnTm 156) w6 (.slice x0 (List.length e.1.1) k0) e.1.1):=by
     simp only [Value.agg.injEq,Array.mk.injEq,List.cons.injEq,and_true] at hv
     rw [hv.1];exact hrow
    have HCN:Hid (∀ w',Ext w4 w'→Calls Tryz.prog 113 #[.slice x0 (List.length e.1.1) k0,.func (.func 114) #[] #[.pointer (some ⟨w.heap.size+1,0,none⟩),.pointer (some ⟨w.heap.size+1+1,0,none⟩)]] w' (Gives w' fun v' _=>v'=.bool false)):=fun w' xx=>
     pcont_any (hrow2.out.ext OwnTm.ext (eT b4 xx)) HTN.out (Ext.cell (eT b3 (eT hxx (eT b4 xx))) C2.out.c1) (Ext.cell (eT b3 (eT hxx (eT b4 xx))) C3.out.c1) ⟨HIO.out.1,HIO.out.2.1,HIO.out.2.2.1,HIO.out.2.2.2.1⟩ HOP.out.2.2
    clear hw4 c4 hbo hE HOA hrow hrow2 hv HOP HTN
    generalize List.length e.1.1=tn at*
    generalize e.2=op at*
    go_upto_region 15 with (fail)
    rw [← HW.out]
    clear HW u0 u1 u2 u3 u4
    obtain ⟨u0,u1,u2,u3,u4⟩:=C4.out.c5
    go_wp2_with fail
    refine HCK.out.mono ?_
    rintro e w5 ⟨_,rfl,b5,rfl⟩
    have HCN2:=qH (HCN.out _ b5)
    clear u0 u1 u2 u3 u4
    obtain ⟨u0,u1,u2,u3,u4⟩:=(C4.out.ext b5).c5
    go_wp2_with fail
    refine HCN2.out.mono ?_
    rintro e w7 ⟨_,rfl,b7,rfl⟩
    go_wp2_with fail
    go_roundw
    case rel=>exact ⟨j+1,by go_num,by omega,eT hx2 (eT b4 (eT b5 b7))⟩
    simp [intOf]<;>omega
   obtain rfl:j=ats.length:=by omega
   have hd:=dF ((ats.length:Int) < (ats.length:Int))
   go_wp2_with fail
   exact hR.out _ _ (Gives.mk (eT b03 hxx) rfl)
open Go.RowKit Go.Att

noncomputable def wlL {ν:Type} (ls:List (Lay ν)) (z:Int) (i:Nat):List Int:=(List.range (i+1)).map fun k=>wds (ls.take k) z
theorem wlL_len {ν:Type} {ls:List (Lay ν)} {z:Int} {i:Nat}:(wlL ls z i).length=i+1:=by
 unfold wlL
 rw [List.length_map,List.length_range]
theorem wlL_succ {ν:Type} {ls:List (Lay ν)} {z:Int} {i:Nat}:wlL ls z (i+1)=wlL ls z i ++ [wds (ls.take (i+1)) z]:=by
 unfold wlL
 rw [List.range_succ,List.map_append]
 rfl
theorem widthsL_any {ν:Type} {T:World→Value→ν→Prop} {w:World} {v:Value} {n:Nt ν} (hv0:RdNet T w v n) (hl:lit n):
  Calls Tryz.prog 36 #[v] w (Gives w fun v' w'=>∃ a m c,v'=.tuple #[.slice a m c,.int .i64 (if 0 < wds n.2 n.1 then 0 else 4)]∧(0 < wds n.2 n.1→OwnRow 1 IntT 3 0 w' (.slice a m c) (wlL n.2 n.1 n.2.length))∧(¬ 0 < wds n.2 n.1→m=0)):=by
 refine via fun R hR=>?_
 have hv:=hv0.mono (S:=fun _ _ _=>True) fun _ _ _=>trivial
 obtain ⟨z,ls⟩:=n
 have HGR:Hid (∀ w',Ext w w'→Calls Tryz.prog 60 #[v] w' (Gives w' fun v' _=>v'=.bool false)):=fun w' x=>great_any (hv.ext (fun _ _=>trivial) x) hl
 obtain ⟨a,c,rfl,hlc,hcm,hr⟩:=hv.op
 have HV:=qH hr
 have HZ:Hid (ls.length≤3):=hl.2.1
 have HLT:Hid (∀ l∈ls,litL l):=hl.2.2
 dsimp only at hlc hcm HV HGR
 unfold maxLen at hcm
 clear hv hv0 hr hl
 obtain ⟨w1,hw1,b1,c1,-,-⟩:=bx1 w [.int .i64 z,.slice a ls.length c] 47
 have HW:=qH hw1
 have C1:=qH c1
 obtain ⟨j0,j1⟩:=c1.c2
 clear hw1 c1
 go_enter Tryz.func36,Tryz.ntmps36
 go_upto_region 1 with (fail)
 rw [← HW.out]
 clear HW
 go_wp2_with fail
 refine (HGR.out _ b1).mono ?_
 rintro e w2 ⟨_,rfl,b2,rfl⟩
 clear j0 j1
 obtain ⟨j0,j1⟩:=(C1.out.ext b2).c2
 go_upto_region 4 with (fail)
 go_cut [5] (fun s5 wx=>Ext w2 wx∧Hid (OwnRow 1 IntT 3 w2.heap.size wx s5 [z]))
 case first=>
  go_wp2_with fail
  go_meet
  exact ⟨Ext.alloc _ _,qH (OwnRow.litOne (T:=IntT) IntT.ext _ (w:=w2) (cs:=[.int .i64 z]) (y:=z) (Nat.le_refl _) rfl rfl)⟩
 case rest=>
  obtain ⟨hX3,hO3⟩:=hcut
  obtain ⟨w3,hw3⟩:∃ w0:World,w0=wc:=⟨_,rfl⟩
  subst hw3
  clear j0 j1
  obtain ⟨j0,j1⟩:=(C1.out.ext (eT b2 hX3)).c2
  go_wp2_with fail
  clear j0 j1
  go_loopw [4,5,17] (fun s4 s5 t wr=>∃ i:Nat,s4=.int .i64 (wds (ls.take i) z)∧t=.int .i64 i∧i≤ls.length∧Hid (Ext w2 wr)∧Hid (OwnRow 1 IntT 3 w2.heap.size wr s5 (wlL ls z i))) (fun _ _ t _=>ls.length - (intOf t).toNat)
  case atStart=>exact ⟨0,rfl,rfl,Nat.zero_le _,hX3,hO3⟩
  case round=>
   clear hX3 hO3
   obtain ⟨i,rfl,rfl,hi,hX,hO⟩:=hrel
   have hol:Hid ((wlL ls z i).length=i+1):=wlL_len
   have HWS:=qH (wlL_succ (ls:=ls) (z:=z) (i:=i))
   obtain ⟨o,ho⟩:∃ o,wlL ls z i=o:=⟨_,rfl⟩
   have HOL:=qH ho
   rw [ho] at hO hol HWS
   clear ho
   obtain ⟨wo,hwo⟩:∃ w0:World,w0=wr:=⟨_,rfl⟩
   subst hwo
   have hi3:=HZ.out
   by_cases hlt:i < ls.length
   ·have hd:=dT ((i:Int) < (ls.length:Int))
    have HJ1:IntKind.i64.wrap ((i:Int)+1)=((i+1:Nat):Int):=by rw [IntKind.wrap_i64];omega
    have HI2:(0:Int)≤(i:Int)∧(i:Int) < (ls.length:Int):=⟨by omega,by omega⟩
    have hxw:=eT b1 (eT b2 hX.out)
    obtain ⟨bL,oL,ax,mx',ay,my,az,mz,hae,hbo,hRW,hRB,hRG⟩:=(HV.out.ext (fun h x=>RdLay.ext h (fun _ _=>trivial) x) hxw).lay i hlt
    subst hae
    have HLL:Hid (litL ls[i]):=HLT.out _ (List.getElem_mem hlt)
    have HWT:=qH (wds_take ls z i hlt)
    obtain ⟨l,hl⟩:∃ l,ls[i]=l:=⟨_,rfl⟩
    rw [hl] at hbo hRW hRB hRG HLL HWT
    clear hl
    obtain ⟨u0,u1,u2,u3⟩:=hbo.c4
    obtain ⟨w4,hw4,b4,c4,-,-⟩:=bx1 wo [.int .i64 l.K,.slice ax l.W.length mx',.slice ay l.B.length my,.slice az l.G.length mz] 129
    have HW:=qH hw4
    have C4:=qH c4
    have HWD:Hid (∀ n:Int,Calls Tryz.prog 61 #[.agg #[.int .i64 l.K,.slice ax l.W.length mx',.slice ay l.B.length my,.slice az l.G.length mz],.int .i64 n] w4 (Gives w4 fun v' _=>v'=.int .i64 (wdt l n))):=fun n=>width_any (RdLay.ext (T:=fun _ _ _=>True) ⟨_,_,_,rfl,hRW,hRB,hRG⟩ (fun _ _=>trivial) b4) (by have:=HLL.out.1;omega) (by have:=HLL.out.1;omega) (fun g hg=>by have:=HLL.out.2.2 g hg;omega)
    clear hw4 c4 hRW hRB hRG hbo
    go_upto_region 8 with (fail)
    rw [← HW.out]
    clear HW u0 u1 u2 u3
    obtain ⟨u0,u1,u2,u3⟩:=C4.out.c4
    have hX4:=eT hX.out b4
    obtain ⟨a5,k5,rfl,-,-⟩:=hO.out.rd.shape
    generalize wds (ls.take i) z=s at*
    generalize hs2:wds (ls.take (i+1)) z=s2 at HWT
    have HS2:=qH hs2
    clear hs2
    by_cases hs:0 < s
    ·have hd1:decide (0 < s)=true:=decide_eq_true hs
     rw [if_pos hs] at HWT
     clear hs
     have HCW:=qH (HWD.out s)
     rw [← HWT.out] at HCW
     clear HWD
     go_wp2_with fail
     refine HCW.out.mono ?_
     rintro e w5 ⟨_,rfl,b5,rfl⟩
     have hO5:=qH (hO.out.ext IntT.ext (eT b4 b5))
     have hX5:=eT hX4 b5
     clear HCW u0 u1 u2 u3
     go_wp2_with (at_builtin;refine append_rowL (y:=s2) etLi (kdI _) rF _ _ rF w2.heap.size rF _ rF hO5.out rfl (show IntT _ _ _ from rfl) (Below.size hX5) (by have:=hol.out;omega) (by have:=hol.out;unfold maxLen;omega) ?_;intro v9 w9 o9 b9 g9)
     go_roundw
     case rel=>exact ⟨i+1,by rw [HS2.out],by go_num,by omega,Below.trans hX5 b9,by rw [HWS.out,HS2.out];exact o9⟩
     simp [intOf]<;>omega
    have hd1:decide (0 < s)=false:=decide_eq_false hs
    rw [if_neg hs] at HWT
    clear hs HWD
    have hO5:=qH (hO.out.ext IntT.ext b4)
    go_wp2_with (at_builtin;refine append_rowL (y:=s) etLi (kdI _) rF _ _ rF w2.heap.size rF _ rF hO5.out rfl (show IntT _ _ _ from rfl) (Below.size hX4) (by have:=hol.out;omega) (by have:=hol.out;unfold maxLen;omega) ?_;intro v9 w9 o9 b9 g9)
    go_roundw
    case rel=>exact ⟨i+1,by rw [HS2.out,HWT.out],by go_num,by omega,Below.trans hX4 b9,by rw [HWS.out,HS2.out,HWT.out];exact o9⟩
    simp [intOf]<;>omega
   obtain rfl:i=ls.length:=by omega
   have hd:=dF ((ls.length:Int) < (ls.length:Int))
   rw [List.take_length]
   obtain ⟨a5,k5,rfl,-,-⟩:=hO.out.rd.shape
   clear hol
   generalize o.length=m5 at*
   by_cases hs:0 < wds ls z
   ·rw [if_pos hs] at hR
    have hp:Hid (0 < wds ls z):=hs
    have hd1:=dF (wds ls z≤0)
    clear hs
    generalize wds ls z=s at*
    go_wp2_with fail
    exact hR.out _ _ (Gives.mk (eT b1 (eT b2 hX.out)) ⟨_,_,_,rfl,fun _=>by rw [HOL.out];exact hO.out.mono (Nat.zero_le _),fun h=>by have:=hp.out;omega⟩)
   rw [if_neg hs] at hR
   have hp:Hid (¬ 0 < wds ls z):=hs
   have hd1:=dT (wds ls z≤0)
   clear hs
   generalize wds ls z=s at*
   go_wp2_with fail
   exact hR.out _ _ (Gives.mk (eT b1 (eT b2 hX.out)) ⟨_,_,_,rfl,fun h=>absurd h (by have:=hp.out;omega),fun _=>rfl⟩)
end Go.Proofs.YtmlhccajicmpfaaGreat
