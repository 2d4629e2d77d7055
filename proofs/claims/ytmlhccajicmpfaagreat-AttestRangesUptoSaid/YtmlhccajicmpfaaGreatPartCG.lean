/- A group of texts: PExpr8, PR8Coef, LinP, PR8Form, PR8Vars, RowOne, PR8Means, PTold8, PLinReps -/
import Derived.Test.YtmlhccajicmpfaaGreatSq
import Derived.Test.YtmlhccajicmpfaaGreatPartAF
import Derived.Test.YtmlhccajicmpfaaGreatPartBC
import Derived.Test.YtmlhccajicmpfaaGreatPartBB
import Derived.Test.YtmlhccajicmpfaaGreatPartBA
import Derived.Test.YtmlhccajicmpfaaGreatPartBF
set_option maxHeartbeats 40000000
set_option maxRecDepth 100000
set_option linter.unusedSimpArgs false
namespace Go.Proofs.YtmlhccajicmpfaaGreat
open Go.RowKit Go.Att

theorem of8_p {w:World} {v:Value} {n:NN} (h:RdNp w v n) (hn:Nlt 1000000000 n):Calls Tryz.prog 29 #[v] w (Gives w fun v' w'=>OwnQ 156 w.heap.size w' v' (qN n)):=of8_any h hn.1 hn.2
theorem tL_snoc {l:List (Int × NN)} {j:Nat} (hj:j < l.length):(l.take (j+1)).map qT=(l.take j).map qT ++ [(l[j].1,qN l[j].2)]:=by
 rw [← List.take_append_getElem hj,List.map_append];rfl
theorem expr8_any {w:World} {v:Value} {l:List (Int × NN)} {n:NN} (hv:RdNE w v l n) (hs:∀ t∈l,Nlt 1000000000 t.2) (hn:Nlt 1000000000 n):
  Calls Tryz.prog 85 #[v] w (Gives w fun v' w'=>OwnX w.heap.size w' v' (tL l) (qN n)):=by
 refine via fun R hR=>?_
 unfold tL at hR
 have HS:=qH hs
 have HN:=qH hn
 obtain ⟨sl,y,z,rfl,hrow,hc⟩:=hv
 obtain ⟨a,k,rfl,hlk,hkm⟩:=hrow.shape
 unfold maxLen at hkm
 have HRW:=qH hrow
 have HRC:=qH hc
 obtain ⟨sg,hsg⟩:∃ sg,n.1=sg:=⟨_,rfl⟩
 rw [hsg] at HRC ⊢
 clear hrow hc hs hn hsg
 obtain ⟨w1,hw1,b1,c2,c3,r2,r3,-⟩:=bx2 w [.slice a l.length k,.bool sg,y,z] [.slice none 0 0,.bool false,.slice none 0 0,.slice none 0 0] 107 142
 have HW:=qH hw1
 have C2:=qH c2
 have R2:Hid (Rt w1 (w.heap.size+1) 4 142):=by
  show Rt _ _ _ _
  rw [hw1]
  have:=Rt.new (w.alloc (.cells #[.slice a l.length k,.bool sg,y,z] 107)) [.slice none 0 0,.bool false,.slice none 0 0,.slice none 0 0] 142
  simpa using this
 clear c2 c3 r2 r3 hw1
 go_enter Tryz.func85,Tryz.ntmps85
 go_upto_region 1 with (fail)
 rw [← HW.out]
 clear HW
 obtain ⟨j0,j1,j2,j3⟩:=C2.out.c4
 go_wp2_with fail
 refine (of8_p (HRC.out.ext b1) HN.out).mono ?_
 rintro e w2 ⟨_,rfl,b2,o2⟩
 obtain ⟨s7,a7,l7,c7,a6,l6,c6,rfl,O2⟩:=o2.op
 clear o2 j0 j1 j2 j3
 obtain ⟨w3,hw3,b3,c3,hr3,-⟩:=bx1 w2 [.slice none 0 0,.bool s7,.slice a7 l7 c7,.slice a6 l6 c6] 142
 have HW:=qH hw3
 have R3:Hid (Rt w3 w2.heap.size 4 142):=by
  show Rt _ _ _ _
  rw [hw3]
  exact Rt.new w2 [.slice none 0 0,.bool s7,.slice a7 l7 c7,.slice a6 l6 c6] 142
 have C3:=qH c3
 clear hw3 c3 hr3
 go_upto_region 2 with (fail)
 rw [← HW.out]
 clear HW
 obtain ⟨BO,hBO⟩:∃ BO,w2.heap.size=BO:=⟨_,rfl⟩
 have h12:=b2.size
 rw [hBO] at R3 C3 ⊢
 have hBO1:w1.heap.size≤BO:=by omega
 clear hBO h12
 generalize qN n=c at*
 go_wp2_with fail
 go_loopw [4] (fun t wr=>∃ (j:Nat) (ao:Option Addr) (ko:Nat),t=.int .i64 j∧j≤l.length∧j≤12∧Ext w1 wr∧Hid (Bx wr BO [.slice ao ((l.take j).map qT).length ko,.bool s7,.slice a7 l7 c7,.slice a6 l6 c6])∧Hid (Rt wr BO 4 142)∧Hid (OwnQ 156 0 wr (.agg #[.bool s7,.slice a7 l7 c7,.slice a6 l6 c6]) c)∧Hid (OwnRow 4 (OwnTm 156) 224 w1.heap.size wr (.slice ao ((l.take j).map qT).length ko) ((l.take j).map qT))) (fun t _=>l.length - (intOf t).toNat)
 case atStart=>exact ⟨0,none,0,rfl,Nat.zero_le _,Nat.zero_le _,eT b2 b3,by rw [List.take_zero];exact C3.out,R3.out,(O2.out.mono (Nat.zero_le _)).ext b3,by rw [List.take_zero];exact OwnRow.nil _ _ _⟩
 case round=>
  clear O2 C3 R3
  obtain ⟨j,ao,ko,rfl,hj,hj12,hx,hC,hRt,hQ,hO⟩:=hrel
  obtain ⟨j0,j1,j2,j3⟩:=(C2.out.ext hx).c4
  by_cases hjl:j < l.length
  ·have hd:=dT ((j:Int) < (l.length:Int))
   have hd':decide (j < l.length)=true:=decide_eq_true hjl
   by_cases hj2:j < 12
   ·have hd2:=dT ((j:Int) < 12)
    obtain ⟨bT,oT,rfl⟩:=HRW.out.some_atN hjl
    obtain ⟨yy,zz,hB4,hQT⟩:=HRW.out.nt j hjl
    have hJ1:IntKind.i64.wrap (j:Int)=(j:Int):=by rw [IntKind.wrap_i64];omega
    have hJ2:(0:Int)≤(j:Int)∧(j:Int) < (l.length:Int):=⟨by omega,by omega⟩
    have HSN:=qH (tL_snoc hjl)
    have HOL:Hid (((l.take j).map qT).length=j):=by show _=_;rw [List.length_map,List.length_take];omega
    have HSQ:Hid (Nlt 1000000000 l[j].2):=HS.out _ (List.getElem_mem hjl)
    have HQT:=qH (RdNp.ext hQT (eT b1 hx))
    have DB:=qH (hB4.ext (eT b1 hx))
    have DBX:=qH (hB4.ext b1)
    obtain ⟨u,hu⟩:∃ u,l[j].1=u:=⟨_,rfl⟩
    obtain ⟨q4,hq4⟩:∃ q4,qN l[j].2=q4:=⟨_,rfl⟩
    have HOF:Hid (∀ w v,RdNp w v l[j].2→Calls Tryz.prog 29 #[v] w (Gives w fun v' w'=>OwnQ 156 w.heap.size w' v' q4)):=fun w v h=>hq4 ▸ of8_p h HSQ.out
    rw [hu] at DB DBX HSN
    rw [hq4] at HSN
    generalize l[j].2=nn4 at*
    obtain ⟨sb,hsb⟩:∃ sb,nn4.1=sb:=⟨_,rfl⟩
    rw [hsb] at DB DBX HQT
    clear hB4 hQT hu hsb
    obtain ⟨ol,hol⟩:∃ ol,(l.take j).map qT=ol:=⟨_,rfl⟩
    rw [hol] at hC hO HOL HSN
    clear hol
    obtain ⟨ol2,hol2⟩:∃ ol2,ol ++ [(u,q4)]=ol2:=⟨_,rfl⟩
    have HS2:=qH hol2
    rw [hol2] at HSN
    clear hol2
    obtain ⟨w4,hw4⟩:∃ w0:World,w0=wr:=⟨_,rfl⟩
    subst hw4
    have C24:=qH (C2.out.ext hx)
    have neO:=hO.out.ne_rt hRt.out dC
    go_wp2_with fail
    clear j0 j1 j2 j3
    have b5:=drew_ext w4
    have XE:=b5
    refine wp_region_noPanic ?_
    refine wp_region_last_drew (st:=19) (S:=fun w'=>(w'.cell? ⟨BO,0,none⟩=some (.slice ao ol.length ko))∧(w'.cell? ⟨w.heap.size,0,none⟩=some (.slice (some ⟨bT,oT,none⟩) l.length k))∧(w'.cell? ⟨bT,oT+j*4,none⟩=some (.int .i64 u)∧w'.cell? ⟨bT,oT+j*4+1,none⟩=some (.bool sb)∧w'.cell? ⟨bT,oT+j*4+2,none⟩=some (yy)∧w'.cell? ⟨bT,oT+j*4+3,none⟩=some (zz))) kR (⟨(hC.out.ext XE).c1,(C24.out.ext XE).c1,DB.out.ext XE⟩) (fun hHeld=>?_)
    refine tkL 0 hHeld ?_
    simp only [jP,jJ]
    refine tkL 1 hHeld ?_
    simp only [jP,jJ]
    refine tkL 2 hHeld ?_
    simp only [jP,jJ]
    refine tkL 3 hHeld ?_
    simp only [jP,jJ]
    refine tkL 4 hHeld ?_
    simp only [jP,jJ]
    refine tkL 5 hHeld ?_
    simp only [jP,jJ]
    refine tkL 6 hHeld ?_
    simp only [jP,jJ]
    refine tkL 7 hHeld ?_
    simp only [jP,jJ]
    refine tkL 8 hHeld ?_
    simp only [jP,jJ]
    refine tkL 9 hHeld ?_
    simp only [jP,jJ]
    refine tkL 10 hHeld ?_
    simp only [jP,jJ]
    refine tkL 11 hHeld ?_
    simp only [jP,jJ]
    refine tkL 12 hHeld ?_
    simp only [jP,jJ]
    refine tkL 13 hHeld ?_
    simp only [jP,jJ]
    refine rdL 14 kR rfl (fun K hK=>?_)
    go_simp
    go_at_call 29;refine (HOF.out _ _ (RdNp.ext HQT.out XE)).mono ?_;rintro e w6 ⟨v6,rfl,b6,o6⟩;have O6:=qH o6;clear o6;(first | have XE:=eT XE b6 | have XE:=eT (eT XE (Ext.alloc _ _)) b6);obtain ⟨s6,e6,n6,g6,f6,m6,h6,rfl,P6⟩:=O6.out.op
    go_wp2_with fail
    refine hK.out _ _ (⟨(hC.out.ext XE).c1,(C24.out.ext XE).c1,DB.out.ext XE⟩) (fun hHeld=>?_)
    clear hK K
    try simp only [jP,jJ]
    refine tkL 15 hHeld ?_
    simp only [jP,jJ]
    refine rdL 16 kR rfl (fun K hK=>?_)
    go_simp
    refine hK.out _ _ (⟨(hC.out.ext (eT XE (Ext.alloc _ _))).c1,(C24.out.ext (eT XE (Ext.alloc _ _))).c1,DB.out.ext (eT XE (Ext.alloc _ _))⟩) (fun hHeld=>?_)
    clear hK K
    try simp only [jP,jJ]
    refine rdL 17 kR rfl (fun K hK=>?_)
    refine if_wantedL rfl ?_
    refine append_row (y:=(u,q4)) etTm (kdT (e:=156) dC) _ _ rF w1.heap.size rF _ rF (hO.out.ext OwnTm.ext XE) rfl ⟨_,_,_,rfl,P6.out.mono (Nat.zero_le _)⟩ (Below.size (eT hx XE)) (by have:=HOL.out;omega) (by have:=HOL.out;unfold maxLen;omega) ?_
    intro v9 w9 o9 b9 g9
    have xA:=eT XE (Ext.alloc w6 (.cells #[.int .i64 u,.bool s6,.slice e6 n6 g6,.slice f6 m6 h6] 224))
    have RO9:=qH ((hRt.out.ext xA).grow g9 neO)
    have DO9:=qH ((hC.out.ext xA).grow g9 neO)
    obtain ⟨nn,xs,hown⟩:=((hO.out.ext OwnTm.ext xA)).own
    have HQ9:=qH (OwnQ.grown (hQ.out.ext xA) hown dC g9)
    have XW:=Below.trans hx (Below.trans (Below.mono XE (Below.size hx)) b9)
    have DB9:=DBX.out.ext (show Ext w1 w9 from XW)
    rw [HS2.out] at o9
    obtain ⟨a11,k11,rfl,-,-⟩:=o9.rd.shape
    refine hK.out _ _ ⟨DO9.out.c1,(C2.out.ext (show Ext w1 w9 from XW)).c1,DB9⟩ (fun hHeld=>?_)
    clear hK K
    try simp only [jP,jJ]
    refine tkL 18 hHeld ?_
    simp only [jP,jJ]
    obtain ⟨_,_,_,_,n0,n1,n2,n3,i0,i1,i2,i3⟩:=RO9.out.c4
    refine wpAnyL_ready (rs:=[19]) kR (by simp) ?_
    refine AllReadyL.last (o:=_) rfl (fun K hK=>?_)
    go_simp
    refine hK.out _ _ ?_
    clear hK K
    try simp only [jP,jJ]
    refine wpAnyL_done kR ?_ _
    refine NoPanic.normal ?_
    go_wp2_with fail
    go_roundw
    case rel=>exact ⟨j+1,a11,k11,by go_num,by omega,by omega,putL_below hBO1 [_] 0 XW,by
     rw [HSN.out]
     exact DO9.out.set0 RO9.out dC _,RO9.out.set0 _,HQ9.out.putT RO9.out dC 0 [_],by
     rw [HSN.out]
     exact o9.putT RO9.out dC 0 [_] (fun v a h=>h.putT RO9.out dC 0 [_])⟩
    simp [intOf]<;>omega
   have hd2:=dF ((j:Int) < 12)
   have HT12:Hid ((l.take j).map qT=(l.take 12).map qT):=(by show _=_;rw [show j=12 by omega])
   rw [HT12.out] at hC hO
   clear j0 j1 j2 j3
   generalize (l.take 12).map qT=ol at*
   obtain ⟨k0,k1,k2,k3⟩:=hC.out.c4
   obtain ⟨j0,j1,j2,j3⟩:=(C2.out.ext hx).c4
   have RR:=qH (R2.out.ext hx)
   have h01:w.heap.size≤w1.heap.size:=Below.size b1
   obtain ⟨_,_,_,_,n0,n1,n2,n3,i0,i1,i2,i3⟩:=RR.out.c4
   go_wp2_with fail
   refine bodyPost_ret (v:=.agg #[.slice ao ol.length ko,.bool s7,.slice a7 l7 c7,.slice a6 l6 c6]) (by simp [results,Tryz.results85,go_sem,n0,n1,n2,n3]) rfl ?_
   exact hR.out _ _ (Gives.mk (put4_below (eT b1 hx) oM _ _ _ _ _) (OwnEx.putT ⟨_,_,_,_,rfl,hO.out.mono h01,hQ.out⟩ RR.out dC dC 0 [_,_,_,_]))
  have hd:=dF ((j:Int) < (l.length:Int))
  have hd':decide (j < l.length)=false:=decide_eq_false hjl
  have HT12:Hid ((l.take j).map qT=(l.take 12).map qT):=(by show _=_;rw [List.take_of_length_le (show l.length≤j by omega),List.take_of_length_le (show l.length≤12 by omega)])
  rw [HT12.out] at hC hO
  clear j0 j1 j2 j3
  generalize (l.take 12).map qT=ol at*
  obtain ⟨k0,k1,k2,k3⟩:=hC.out.c4
  obtain ⟨j0,j1,j2,j3⟩:=(C2.out.ext hx).c4
  have RR:=qH (R2.out.ext hx)
  have h01:w.heap.size≤w1.heap.size:=Below.size b1
  obtain ⟨_,_,_,_,n0,n1,n2,n3,i0,i1,i2,i3⟩:=RR.out.c4
  go_wp2_with fail
  refine bodyPost_ret (v:=.agg #[.slice ao ol.length ko,.bool s7,.slice a7 l7 c7,.slice a6 l6 c6]) (by simp [results,Tryz.results85,go_sem,n0,n1,n2,n3]) rfl ?_
  exact hR.out _ _ (Gives.mk (put4_below (eT b1 hx) oM _ _ _ _ _) (OwnEx.putT ⟨_,_,_,_,rfl,hO.out.mono h01,hQ.out⟩ RR.out dC dC 0 [_,_,_,_]))
open Go.RowKit Go.Att

open Go.RowKit Go.Att

open Go.RowKit Go.Att

open Go.RowKit Go.Att

def NxI (y:Int) (us:List Int) (m:Nat) (d:Bool) (ns:List Int):Prop:=(us.Nodup→ns.Nodup)∧ns.length≤m+d.toNat∧∀ x,x∈ns↔(x∈us.take m∧x≠y)∨(d=true∧x=y)
theorem NxI.fin {y:Int} {us ns:List Int} (h:NxI y us us.length true ns):ns.length≤us.length+1∧(us.Nodup→ns.Nodup)∧∀ x,x∈ns↔x∈us∨x=y:=⟨h.2.1,h.1,fun x=>by
 rw [h.2.2 x,List.take_length]
 constructor
 ·rintro (h | h)
  ·exact .inl h.1
  exact .inr h.2
 intro h
 by_cases hx:x=y
 ·exact .inr ⟨rfl,hx⟩
 exact .inl ⟨h.resolve_right hx,hx⟩⟩
open Go.RowKit Go.Att

open Go.RowKit Go.Att

theorem _root_.Go.Att.Sz.fit {L:Nat} {q:Rat} (h:Sz L q) (hL:32*L≤50000):Sb 50000 q:=h.bits.le hL
open Go.RowKit Go.Att

abbrev OwnY (B:Nat) (w:World) (v:Value) (l:TL) (c:Rat):Prop:=OwnEy 4 173 B w v l c
theorem etTp8:ElemT Tryz.prog 167 173 (.agg #[.int .i64 0,.bool false,.slice none 0 0,.slice none 0 0]) 4 64:=ElemT.mk' Tryz.underlying167 kR rfl dC
theorem take_snoc8 {l:TL} {j:Nat} (hj:j < l.length):l.take (j+1)=l.take j ++ [gt l j]:=by rw [← List.take_append_getElem hj,gt_lt hj]
theorem told8_any {w:World} {v:Value} {l:TL} {c:Rat} (hv:RdX w v l c) (hs:∀ t∈l,Sz 1000000 t.2) (hsc:Sz 1000000 c) (hl:l.length≤1000):
  Calls Tryz.prog 124 #[v] w (Gives w fun v' w'=>OwnY w.heap.size w' v' l c):=by
 refine via fun R hR=>?_
 have HS:=qH hs
 have HSC:=qH hsc
 obtain ⟨a,k,s,b,m,d,b',m',d',rfl,hlk,hkm,HRW,HRC⟩:=hv.op
 clear hv hs hsc
 obtain ⟨w1,hw1,b1,c2,c3,r2,r3,-⟩:=bx2 w [.slice a l.length k,.bool s,.slice b m d,.slice b' m' d'] [.slice none 0 0,.bool false,.slice none 0 0,.slice none 0 0] 142 169
 have HW:=qH hw1
 have C2:=qH c2
 have R2:Hid (Rt w1 (w.heap.size+1) 4 169):=by
  show Rt _ _ _ _
  rw [hw1]
  have:=Rt.new (w.alloc (.cells #[.slice a l.length k,.bool s,.slice b m d,.slice b' m' d'] 142)) [.slice none 0 0,.bool false,.slice none 0 0,.slice none 0 0] 169
  simpa using this
 clear c2 c3 r2 r3 hw1
 go_enter Tryz.func124,Tryz.ntmps124
 go_upto_region 1 with (fail)
 rw [← HW.out]
 clear HW
 obtain ⟨j0,j1,j2,j3⟩:=C2.out.c4
 go_wp2_with fail
 refine (told_any (HRC.out.rd.ext b1) HSC.out).mono ?_
 rintro e w2 ⟨_,rfl,b2,o2⟩
 obtain ⟨s7,a7,l7,c7,a6,l6,c6,rfl,O2⟩:=o2.op
 clear o2 j0 j1 j2 j3
 obtain ⟨w3,hw3,b3,c3,hr3,-⟩:=bx1 w2 [.slice none 0 0,.bool s7,.slice a7 l7 c7,.slice a6 l6 c6] 169
 have HW:=qH hw3
 have R3:Hid (Rt w3 w2.heap.size 4 169):=by
  show Rt _ _ _ _
  rw [hw3]
  exact Rt.new w2 [.slice none 0 0,.bool s7,.slice a7 l7 c7,.slice a6 l6 c6] 169
 have C3:=qH c3
 clear hw3 c3 hr3
 go_upto_region 2 with (fail)
 rw [← HW.out]
 clear HW
 obtain ⟨BO,hBO⟩:∃ BO,w2.heap.size=BO:=⟨_,rfl⟩
 have h12:=b2.size
 rw [hBO] at R3 C3 ⊢
 have hBO1:w1.heap.size≤BO:=by omega
 clear hBO h12
 obtain ⟨j0,j1,j2,j3⟩:=(C2.out.ext (eT b2 b3)).c4
 go_wp2_with fail
 clear j0 j1 j2 j3
 go_loopw [13] (fun t wr=>∃ (j:Nat) (ao:Option Addr) (ko:Nat),t=.int .i64 j∧j≤l.length∧Ext w1 wr∧Hid (Bx wr BO [.slice ao (l.take j).length ko,.bool s7,.slice a7 l7 c7,.slice a6 l6 c6])∧Hid (Rt wr BO 4 169)∧Hid (OwnP 4 0 wr (.agg #[.bool s7,.slice a7 l7 c7,.slice a6 l6 c6]) c)∧Hid (OwnRow 4 (OwnTp 4) 173 w1.heap.size wr (.slice ao (l.take j).length ko) (l.take j))) (fun t _=>l.length - (intOf t).toNat)
 case atStart=>exact ⟨0,none,0,rfl,Nat.zero_le _,eT b2 b3,by rw [List.take_zero];exact C3.out,R3.out,(O2.out.mono (Nat.zero_le _)).ext b3,by rw [List.take_zero];exact OwnRow.nil _ _ _⟩
 case round=>
  clear O2 C3 R3
  obtain ⟨j,ao,ko,rfl,hj,hx,hC,hRt,hQ,hO⟩:=hrel
  by_cases hjl:j < l.length
  ·have hd:=dT ((j:Int) < (l.length:Int))
   obtain ⟨bT,oT,rfl⟩:=HRW.out.some_at hjl
   obtain ⟨sx,ax,lx,mx,ay,ly,my,hB4,hQT⟩:=HRW.out.tm j hjl
   obtain ⟨u0,u1,u2,u3⟩:=hB4.ext (eT b1 hx)
   have hJ1:IntKind.i64.wrap (j:Int)=(j:Int):=by rw [IntKind.wrap_i64];omega
   have hJ2:(0:Int)≤(j:Int)∧(j:Int) < (l.length:Int):=⟨by omega,by omega⟩
   have HSN:=qH (take_snoc8 hjl)
   have HOL:Hid ((l.take j).length=j):=by show _=_;rw [List.length_take];omega
   have HSQ:Hid (Sz 1000000 (gt l j).2):=by show Sz _ _;rw [gt_lt hjl];exact HS.out _ (List.getElem_mem hjl)
   obtain ⟨y,hy⟩:∃ y,(gt l j).1=y:=⟨_,rfl⟩
   obtain ⟨q4,hq4⟩:∃ q4,(gt l j).2=q4:=⟨_,rfl⟩
   have hyq:gt l j=(y,q4):=Prod.ext hy hq4
   rw [hyq] at HSN
   rw [hq4] at HSQ
   rw [hy] at u0
   rw [hq4] at hQT
   have HQT:=qH (hQT.ext (eT b1 hx))
   clear hy hq4 hyq hB4 hQT
   obtain ⟨ol,hol⟩:∃ ol,l.take j=ol:=⟨_,rfl⟩
   rw [hol] at hC hO HOL
   try rw [hol] at HSN
   clear hol
   obtain ⟨ol2,hol2⟩:∃ ol2,ol ++ [(y,q4)]=ol2:=⟨_,rfl⟩
   have HS2:=qH hol2
   rw [hol2] at HSN
   clear hol2
   obtain ⟨w4,hw4,b4,c4,-,-⟩:=bx1 wr [.int .i64 y,.bool sx,.slice ax lx mx,.slice ay ly my] 224
   have HW:=qH hw4
   have DT:=qH c4
   clear hw4 c4
   go_upto_region 5 with (fail)
   rw [← HW.out]
   clear HW u0 u1 u2 u3
   have b14:=eT hx b4
   have DO:=qH (hC.out.ext b4)
   have hRt4:=qH (hRt.out.ext b4)
   have HQ4:=qH (HQT.out.ext b4)
   have hO4:=qH (hO.out.ext OwnTp.ext b4)
   have hQ4:=qH (hQ.out.ext b4)
   have neO:=hO.out.ne_rt hRt.out dC
   have neT:=hO.out.ne_new
   have b5:=drew_ext w4
   have XE:=b5
   refine wp_region_noPanic ?_
   refine wp_region_last_drew (st:=11) (S:=fun w'=>(w'.cell? ⟨BO,0,none⟩=some (.slice ao ol.length ko))∧(w'.cell? ⟨wr.heap.size,0,none⟩=some (.int .i64 y)∧w'.cell? ⟨wr.heap.size,1,none⟩=some (.bool sx)∧w'.cell? ⟨wr.heap.size,2,none⟩=some (.slice ax lx mx)∧w'.cell? ⟨wr.heap.size,3,none⟩=some (.slice ay ly my))) kR (⟨(DO.out.ext XE).c1,(DT.out.ext XE).c4⟩) (fun hHeld=>?_)
   refine tkL 0 hHeld ?_
   simp only [jP,jJ]
   refine tkL 1 hHeld ?_
   simp only [jP,jJ]
   refine tkL 2 hHeld ?_
   simp only [jP,jJ]
   refine tkL 3 hHeld ?_
   simp only [jP,jJ]
   refine tkL 4 hHeld ?_
   simp only [jP,jJ]
   refine tkL 5 hHeld ?_
   simp only [jP,jJ]
   refine rdL 6 kR rfl (fun K hK=>?_)
   go_simp
   go_at_call 50;refine (told_any (HQ4.out.rd.ext XE) HSQ.out).mono ?_;rintro e w6 ⟨v6,rfl,b6,o6⟩;have O6:=qH o6;clear o6;(first | have XE:=eT XE b6 | have XE:=eT (eT XE (Ext.alloc _ _)) b6);obtain ⟨s6,e6,n6,g6,f6,m6,h6,rfl,P6⟩:=O6.out.op
   go_wp2_with fail
   refine hK.out _ _ (⟨(DO.out.ext XE).c1,(DT.out.ext XE).c4⟩) (fun hHeld=>?_)
   clear hK K
   try simp only [jP,jJ]
   refine tkL 7 hHeld ?_
   simp only [jP,jJ]
   refine rdL 8 kR rfl (fun K hK=>?_)
   go_simp
   refine hK.out _ _ (⟨(DO.out.ext (eT XE (Ext.alloc _ _))).c1,(DT.out.ext (eT XE (Ext.alloc _ _))).c4⟩) (fun hHeld=>?_)
   clear hK K
   try simp only [jP,jJ]
   refine rdL 9 kR rfl (fun K hK=>?_)
   refine if_wantedL rfl ?_
   refine append_row (y:=(y,q4)) etTp8 (kdTP (e:=4) dC) _ _ rF w1.heap.size rF _ rF (hO4.out.ext OwnTp.ext XE) rfl ⟨_,_,_,rfl,P6.out.mono (Nat.zero_le _)⟩ (Below.size (eT hx (eT b4 XE))) (by have:=HOL.out;omega) (by have:=HOL.out;unfold maxLen;omega) ?_
   intro v9 w9 o9 b9 g9
   have xA:=eT XE (Ext.alloc w6 (.cells #[.int .i64 y,.bool s6,.slice e6 n6 g6,.slice f6 m6 h6] 173))
   have RO9:=qH ((hRt4.out.ext xA).grow g9 neO)
   have DO9:=qH ((DO.out.ext xA).grow g9 neO)
   obtain ⟨nn,xs,hown⟩:=((hO4.out.ext OwnTp.ext xA)).own
   have HQ9:=qH (OwnP.grown (hQ4.out.ext xA) hown dC g9)
   have XW:=Below.trans (eT hx b4) (Below.trans (Below.mono XE (Below.size (eT hx b4))) b9)
   rw [HS2.out] at o9
   obtain ⟨a11,k11,rfl,-,-⟩:=o9.rd.shape
   refine hK.out _ _ ⟨DO9.out.c1,((DT.out.ext xA).grow g9 neT).c4⟩ (fun hHeld=>?_)
   clear hK K
   try simp only [jP,jJ]
   refine tkL 10 hHeld ?_
   simp only [jP,jJ]
   obtain ⟨_,_,_,_,n0,n1,n2,n3,i0,i1,i2,i3⟩:=RO9.out.c4
   refine wpAnyL_ready (rs:=[11]) kR (by simp) ?_
   refine AllReadyL.last (o:=_) rfl (fun K hK=>?_)
   go_simp
   refine hK.out _ _ ?_
   clear hK K
   try simp only [jP,jJ]
   refine wpAnyL_done kR ?_ _
   refine NoPanic.normal ?_
   go_wp2_with fail
   go_roundw
   case rel=>exact ⟨j+1,a11,k11,by go_num,by omega,putL_below hBO1 [_] 0 XW,by
    show Hid (Bx _ BO [.slice a11 (l.take (j+1)).length k11,_,_,_])
    rw [HSN.out]
    exact DO9.out.set0 RO9.out dC _,RO9.out.set0 _,HQ9.out.putT RO9.out dC 0 [_],by
    show Hid (OwnRow _ _ _ _ _ (.slice a11 (l.take (j+1)).length k11) (l.take (j+1)))
    rw [HSN.out]
    exact o9.putT RO9.out dC 0 [_] (fun v a h=>h.putT RO9.out dC 0 [_])⟩
   simp [intOf]<;>omega
  obtain rfl:j=l.length:=by omega
  have hd:=dF ((l.length:Int) < (l.length:Int))
  rw [List.take_length] at hC hO
  obtain ⟨k0,k1,k2,k3⟩:=hC.out.c4
  have RR:=qH (R2.out.ext hx)
  have h01:w.heap.size≤w1.heap.size:=Below.size b1
  obtain ⟨_,_,_,_,j0,j1,j2,j3,i0,i1,i2,i3⟩:=RR.out.c4
  go_wp2_with fail
  refine bodyPost_ret (v:=.agg #[.slice ao l.length ko,.bool s7,.slice a7 l7 c7,.slice a6 l6 c6]) (by simp [results,Tryz.results124,go_sem,j0,j1,j2,j3]) rfl ?_
  exact hR.out _ _ (Gives.mk (put4_below (eT b1 hx) oM _ _ _ _ _) (OwnEy.putT ⟨_,_,_,_,rfl,hO.out.mono h01,hQ.out⟩ RR.out dC dC 0 [_,_,_,_]))
open Go.RowKit Go.Att

def Smx (l:TL) (c:Rat):Prop:=l.length≤12∧(∀ t∈l,Sz 8 t.2)∧Sz 8 c
theorem expr8_sm {w:World} {v:Value} {l:List (Int × NN)} {n:NN} (hv:RdNE w v l n) (hs:∀ t∈l,Nlt 1000000000 t.2) (hn:Nlt 1000000000 n):
  Calls Tryz.prog 85 #[v] w (Gives w fun v' w'=>OwnX 0 w' v' (tL l) (qN n)):=
 (expr8_any hv hs hn).mono fun _ _ ⟨v,e,b,o⟩=>⟨v,e,b,o.mono (Nat.zero_le _)⟩
end Go.Proofs.YtmlhccajicmpfaaGreat
