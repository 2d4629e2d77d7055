/- A group of texts: Is20P, PRef20Vars, PRef20At, PRef20Const, PRef20Strict, PRef20Is, PRef20Check -/
import Derived.Test.YthpaifdfafjlcaaGreatSq
import Derived.Test.YthpaifdfafjlcaaGreatAtomAll
import Derived.Test.YthpaifdfafjlcaaGreatR8All
import Derived.Test.YthpaifdfafjlcaaGreatRef5All
namespace Go.Proofs.YthpaifdfafjlcaaGreat
open Go.RowKit Go.Att

theorem fcf_rest {L:List AT} {P:List Rat} {x:Int} (h:¬ InVs x (L.map (·.1))):fcf (L.zip P) x=0:=by
 have h2:∀ z∈L.zip P,cf z.1.1.1 x=0:=fun z hz=>by
  refine cf_none fun t ht he=>h ⟨z.1.1,List.mem_map.2 ⟨z.1,(List.of_mem_zip hz).1,rfl⟩,t,ht,he⟩
 generalize L.zip P=l at h2
 induction l with
 | nil=>rfl
 | cons z l ih=>
  show _+fcf l x=0
  rw [h2 z List.mem_cons_self,ih fun y hy=>h2 y (List.mem_cons_of_mem _ hy),Rat.mul_zero,Rat.add_zero]
open Go.RowKit Go.Att

def OwnYp (w:World) (v:Value) (p:TL × Rat):Prop:=OwnY 0 w v p.1 p.2
theorem OwnYp.ext {w w':World} {v:Value} {p:TL × Rat} (h:OwnYp w v p) (x:Ext w w'):OwnYp w' v p:=OwnEy.ext h x
theorem kdYp {e':TypeId} (h1:4≠e') (h2:87≠e'):Kd e' OwnYp:=⟨fun h X=>OwnYp.ext h X,fun h hr hg=>OwnEy.grown h hr h1 h2 hg,fun {w cs p} h u hu=>by
 obtain ⟨a,k,s,b,m,d,b',m',d',he,-,-,-⟩:=OwnEy.op h
 have:cs=[.slice a p.1.length k,.bool s,.slice b m d,.slice b' m' d']:=by simpa using he
 subst this
 simp at hu
 rcases hu with rfl | rfl | rfl | rfl <;> rfl⟩
theorem etYx:ElemT Tryz.prog 178 83 (.agg #[.slice none 0 0,.bool false,.slice none 0 0,.slice none 0 0]) 4 80:=ElemT.mk' Tryz.underlying178 (by kernel_rfl) rfl (by decide)
set_option maxRecDepth 100000 in
set_option maxHeartbeats 4000000 in
set_option linter.unusedSimpArgs false in
theorem vars20_any {w:World} {v:Value} {l:List AT} (hv:RdRow 5 OwnB9 w v l) (hs:∀ a∈l,a.1.1.length≤1000) (hl:l.length≤1000):
  Calls Tryz.prog 91 #[v] w (Gives w fun v' w'=>∃ vs:List Int,RdRow 1 IntT w' v' vs∧vs.length≤10000000∧vs.Nodup∧∀ x,x∈vs↔InVs x (l.map (·.1))):=by
 refine via fun R hR=>?_
 have HS:=Lib.hid hs
 obtain ⟨a,c,rfl,hlc,hcm⟩:=hv.shape
 have HV:=Lib.hid hv
 unfold maxLen at hcm
 clear hv hs
 go_enter Tryz.func91,Tryz.ntmps91
 go_wp2_with fail
 go_loopw [3,9] (fun o i wr=>∃ k:Nat,i=.int .i64 k∧k≤l.length∧Ext w wr∧Hid (OwnRow 4 OwnYp 83 w.heap.size wr o ((l.take k).map (·.1)))) (fun _ i _=>l.length - (intOf i).toNat)
 case atStart=>exact ⟨0,rfl,Nat.zero_le _,Ext.alloc _ _,by rw [List.take_zero];exact OwnRow.nilLit _ (Nat.le_refl _)⟩
 case round=>
  obtain ⟨k,rfl,hk,hx,hO⟩:=hrel
  by_cases hlt:k < l.length
  ·have hd:decide ((k:Int) < (l.length:Int))=true:=decide_eq_true (by omega)
   obtain ⟨bA,oA,xa,xk,xs,xb,xm,xd,xb',xm',xd',hae,hbo,hax⟩:=HV.out.btm k hlt
   subst hae
   obtain ⟨u0,u1,u2,u3,u4⟩:=(hbo.ext hx).c5
   have hJ1:IntKind.i64.wrap (k:Int)=(k:Int):=by rw [IntKind.wrap_i64];omega
   have hJ2:(0:Int)≤(k:Int)∧(k:Int) < (l.length:Int):=⟨by omega,by omega⟩
   have HTK:Hid ((l.take (k+1)).map (·.1)=(l.take k).map (·.1) ++ [l[k].1]):=by
    show _=_
    rw [← List.take_append_getElem hlt,List.map_append];rfl
   have HKL:Hid (((l.take k).map (·.1)).length≤1000):=by show _≤_;rw [List.length_map,List.length_take];omega
   obtain ⟨w4,hw4,b4,c4,-,-⟩:=bx1 wr [.slice xa l[k].1.1.length xk,.bool xs,.slice xb xm xd,.slice xb' xm' xd',.int .i64 l[k].2] 85
   have HW:=Lib.hid hw4
   have C4:=Lib.hid c4
   have HQ1:Hid (OwnYp w4 (.agg #[.slice xa l[k].1.1.length xk,.bool xs,.slice xb xm xd,.slice xb' xm' xd']) l[k].1):=OwnEy.ext hax (Ext.trans hx b4)
   clear hw4 c4 hbo hax
   generalize l[k].1.1.length=n1 at*
   generalize l[k].2=o1 at*
   generalize l[k].1=q at*
   go_upto_region 5 with (fail)
   rw [← HW.out]
   clear HW u0 u1 u2 u3 u4
   obtain ⟨k0,k1,k2,k3,k4⟩:=C4.out.c5
   have b05:=hx.trans b4
   have hO1:=Lib.hid (hO.out.ext OwnYp.ext b4)
   clear hO
   go_wp2_with (at_builtin;refine append_rowL (y:=q) etYx (kdYp (by decide) (by decide)) (by rfl) _ _ (by rfl) w.heap.size (by rfl) _ (by rfl) hO1.out rfl HQ1.out (Below.size b05) (by have:=HKL.out;omega) (by unfold maxLen;have:=HKL.out;omega) ?_;intro v9 w9 o9 b9 g9)
   go_roundw
   case rel=>exact ⟨k+1,by go_num,by omega,Below.trans b05 b9,by rw [HTK.out];exact o9⟩
   case measure=>simp [intOf] <;> omega
  ·obtain rfl:k=l.length:=by omega
   have hd:decide ((l.length:Int) < (l.length:Int))=false:=decide_eq_false (by omega)
   rw [List.take_length] at hO
   have RO:Hid (RdRow 4 RdYp wr _ (l.map (·.1))):=RdRow.mono hO.out.rd fun _ _ h=>OwnEy.rd h
   have HVA:=Lib.hid (r8vars_nd RO.out (by rw [List.length_map];exact hl) (by
    intro p hp
    obtain ⟨z,hz,rfl⟩:=List.mem_map.1 hp
    exact HS.out z hz))
   clear hO RO
   go_wp2_with fail
   refine HVA.out.mono ?_
   rintro e w2 ⟨_,rfl,b2,vs,h1,h2,h4,h3⟩
   obtain ⟨a2,k2,rfl,-,-⟩:=h1.shape
   have H1:=Lib.hid h1
   have H3:=Lib.hid h3
   clear h1 h3
   go_wp2_with fail
   exact hR.out _ _ (Gives.mk (Ext.trans hx b2) ⟨vs,H1.out,h2,h4,H3.out⟩)
open Go.RowKit Go.Att

set_option linter.unusedSimpArgs false in
set_option maxHeartbeats 4000000 in
set_option maxRecDepth 100000 in
theorem at20_any {w:World} {va vb:Value} {L:List AT} {P:List Rat} {x:Int} (ha:RdRow 5 OwnB9 w va L) (hb:RdRow 3 (OwnPp 4) w vb P) (hz:TzP L P) (hlen:L.length=P.length) (hn:L.length≤10):
  Calls Tryz.prog 92 #[va,vb,.int .i64 x] w (Gives w fun v' w'=>OwnP 4 0 w' v' (fcf (L.zip P) x)):=by
 refine via fun R hR=>?_
 have HA:=Lib.hid ha
 have HB:=Lib.hid hb
 have HLEN:=Lib.hid hlen
 have HN:=Lib.hid hn
 have HL:=Lib.hid hz.sm
 have HP:=Lib.hid hz.sp
 have HZS:=Lib.hid hz.sf
 obtain ⟨aa,ka,rfl,-,-⟩:=ha.shape
 obtain ⟨ab,kb,rfl,-,-⟩:=hb.shape
 clear ha hb hlen hn hz
 have HI:Hid (∀ w,Calls Tryz.prog 98 #[.int .i64 0] w (Gives w fun v' w'=>OwnP 4 0 w' v' 0)):=fun w=>by
  have h:=r5int_any (w:=w) (u:=0) (by omega)
  have e:((0:Int):Rat)=0:=by decide +kernel
  rw [e] at h
  exact h.mono fun _ _ ⟨v,e,b,o⟩=>⟨v,e,b,o.mono (Nat.zero_le _)⟩
 obtain ⟨w1,hw1,b1,c1,r1,-⟩:=bx1 w [.bool false,.slice none 0 0,.slice none 0 0] 81
 have HW:=Lib.hid hw1
 have R1:Hid (Rt w1 w.heap.size 3 81):=by
  show Rt _ _ _ _
  rw [hw1]
  exact Rt.new w [.bool false,.slice none 0 0,.slice none 0 0] 81
 clear c1 r1 hw1
 go_enter Tryz.func92,Tryz.ntmps92
 go_upto_region 1 with (fail)
 rw [← HW.out]
 clear HW
 go_wp2_with fail
 refine (HI.out _).mono ?_
 rintro e w2 ⟨_,rfl,b2,o2⟩
 obtain ⟨s8,a8,l8,c8,a7,l7,c7,rfl,O2⟩:=o2.op
 clear o2
 obtain ⟨w3,hw3,b3,hC3⟩:∃ W,W=w2.alloc (.cells #[.bool s8,.slice a8 l8 c8,.slice a7 l7 c7] 81)∧Ext w2 W∧Bp 4 81 W w2.heap.size 0:=⟨_,rfl,Ext.alloc _ _,Bp.new O2.out⟩
 have HW:=Lib.hid hw3
 clear hw3 O2
 go_upto_region 2 with (fail)
 rw [← HW.out]
 clear HW
 have b02:=Ext.trans b1 b2
 go_wp2_with fail
 go_loopw [13] (fun t wr=>∃ j:Nat,t=.int .i64 j∧j≤L.length∧Ext w2 wr∧Hid (Bp 4 81 wr w2.heap.size (fcf ((L.zip P).take j) x))) (fun t _=>L.length - (intOf t).toNat)
 case atStart=>exact ⟨0,rfl,Nat.zero_le _,b3,by rw [List.take_zero];exact hC3⟩
 case round=>
  clear hC3
  obtain ⟨j,rfl,hj,hx,hC⟩:=hrel
  have hnl:=HN.out
  by_cases hjl:j < L.length
  ·have hd:decide ((j:Int) < (L.length:Int))=true:=decide_eq_true (by omega)
   have hjP:j < P.length:=by have:=HLEN.out;omega
   have b0r:=Ext.trans b02 hx
   obtain ⟨bA,oA,xa,xk,xs,xb,xm,xd,xb',xm',xd',hae,hbo,hax⟩:=HA.out.btm j hjl
   subst hae
   obtain ⟨bP,oP,ps,pa,pl,pk,pa',pl',pk',hpe,hpo,hpq⟩:=HB.out.op' j hjP
   subst hpe
   obtain ⟨u0,u1,u2,u3,u4⟩:=(hbo.ext b0r).c5
   have hJ1:IntKind.i64.wrap (j:Int)=(j:Int):=by rw [IntKind.wrap_i64];omega
   have hJ2:(0:Int)≤(j:Int)∧(j:Int) < (L.length:Int):=⟨by omega,by omega⟩
   have hJ3:(0:Int)≤(j:Int)∧(j:Int) < (P.length:Int):=⟨by omega,by omega⟩
   have HSN:Hid (fcf ((L.zip P).take (j+1)) x=fcf ((L.zip P).take j) x+gt P j*cf L[j].1.1 x):=by
    show _=_
    rw [zip_snoc hjl hjP,fcf_app,fcf_one]
   have HZC:Hid (Sz 109 (cf L[j].1.1 x)):=(HL.out _ (List.getElem_mem hjl)).cf x
   have HOK:=Lib.hid (HL.out _ (List.getElem_mem hjl)).okx
   have HZP:Hid (Sz 100 (gt P j)):=HP.out _ (gt_mem' hjP)
   have HZF:Hid (Sz 1301 (fcf ((L.zip P).take j) x)):=HZS.out j x
   obtain ⟨w4,hw4,b4,c4,-,-⟩:=bx1 wr [.slice xa L[j].1.1.length xk,.bool xs,.slice xb xm xd,.slice xb' xm' xd',.int .i64 L[j].2] 85
   have HW:=Lib.hid hw4
   have C4:=Lib.hid c4
   have x4:=Ext.trans b0r b4
   have HCO:Hid (∀ w',Ext w4 w'→Calls Tryz.prog 74 #[.agg #[.slice xa L[j].1.1.length xk,.bool xs,.slice xb xm xd,.slice xb' xm' xd'],.int .i64 x] w' (Gives w' fun v' w'=>OwnP 4 0 w' v' (cf L[j].1.1 x))):=fun w' y=>r8coef_any (x:=x) 380 ((OwnEy.rd hax).ext (Ext.trans x4 y)) HOK.out.2.1 (HOK.out.2.2.1 x) HOK.out.1 (by decide)
   have HQP:=Lib.hid (hpq.ext x4)
   have CP:=Lib.hid (hpo.ext x4)
   have hC4:=Lib.hid (hC.out.ext b4)
   clear hw4 c4 hbo hpo hpq hax hC
   generalize cf L[j].1.1 x=cj at*
   generalize L[j].1.1.length=n1 at*
   generalize L[j].2=op at*
   generalize gt P j=q at*
   go_upto_region 5 with (fail)
   rw [← HW.out]
   clear HW u0 u1 u2 u3 u4
   obtain ⟨s0,e1,n0,g1,e2,n2,g2,T1,T2,T3⟩:=hC4.out.op
   have b5:=drew_ext w4
   have XE:=b5
   refine wp_region_noPanic ?_
   refine wp_region_last_drew (st:=11) (S:=fun w'=>(w'.cell? ⟨w2.heap.size,0,none⟩=some (.bool s0)∧w'.cell? ⟨w2.heap.size,1,none⟩=some (.slice e1 n0 g1)∧w'.cell? ⟨w2.heap.size,2,none⟩=some (.slice e2 n2 g2))∧(w'.cell? ⟨bP,oP+j*3,none⟩=some (.bool ps)∧w'.cell? ⟨bP,oP+j*3+1,none⟩=some (.slice pa pl pk)∧w'.cell? ⟨bP,oP+j*3+2,none⟩=some (.slice pa' pl' pk'))∧(w'.cell? ⟨wr.heap.size,0,none⟩=some (.slice xa n1 xk)∧w'.cell? ⟨wr.heap.size,1,none⟩=some (.bool xs)∧w'.cell? ⟨wr.heap.size,2,none⟩=some (.slice xb xm xd)∧w'.cell? ⟨wr.heap.size,3,none⟩=some (.slice xb' xm' xd')∧w'.cell? ⟨wr.heap.size,4,none⟩=some (.int .i64 op))) (by kernel_rfl) (⟨(T1.out.ext XE).c3,(CP.out.ext XE).c3,(C4.out.ext XE).c5⟩) (fun hHeld=>?_)
   refine tkL 0 hHeld ?_
   simp only [jP,jA,jB,jC,jD,jE,jF]
   refine tkL 1 hHeld ?_
   simp only [jP,jA,jB,jC,jD,jE,jF]
   refine tkL 2 hHeld ?_
   simp only [jP,jA,jB,jC,jD,jE,jF]
   refine tkL 3 hHeld ?_
   simp only [jP,jA,jB,jC,jD,jE,jF]
   refine tkL 4 hHeld ?_
   simp only [jP,jA,jB,jC,jD,jE,jF]
   refine tkL 5 hHeld ?_
   simp only [jP,jA,jB,jC,jD,jE,jF]
   refine tkL 6 hHeld ?_
   simp only [jP,jA,jB,jC,jD,jE,jF]
   refine tkL 7 hHeld ?_
   simp only [jP,jA,jB,jC,jD,jE,jF]
   refine rdL 8 (by kernel_rfl) rfl (fun K hK=>?_)
   go_simp
   go_at_call 74;refine (HCO.out _ XE).mono ?_;rintro e w6 ⟨v6,rfl,b6,o6⟩;have O6:=Lib.hid o6;clear o6;(first | have XE:=Ext.trans XE b6 | have XE:=Ext.trans (Ext.trans XE (Ext.alloc _ _)) b6)
   go_wp2_with fail
   refine hK.out _ _ (⟨(T1.out.ext XE).c3,(CP.out.ext XE).c3,(C4.out.ext XE).c5⟩) (fun hHeld=>?_)
   clear hK K
   try simp only [jP,jA,jB,jC,jD,jE,jF]
   refine rdL 9 (by kernel_rfl) rfl (fun K hK=>?_)
   go_simp
   go_at_call 73;refine (r5mul_any (HQP.out.rd.ext XE) O6.out.rd (HZP.out.bits.le (by decide)) (HZC.out.bits.le (by decide))).mono ?_;rintro e w7 ⟨v7,rfl,b7,o7⟩;have O7:=Lib.hid o7;clear o7;(first | have XE:=Ext.trans XE b7 | have XE:=Ext.trans (Ext.trans XE (Ext.alloc _ _)) b7)
   go_wp2_with fail
   refine hK.out _ _ (⟨(T1.out.ext XE).c3,(CP.out.ext XE).c3,(C4.out.ext XE).c5⟩) (fun hHeld=>?_)
   clear hK K
   try simp only [jP,jA,jB,jC,jD,jE,jF]
   refine rdL 10 (by kernel_rfl) rfl (fun K hK=>?_)
   go_simp
   go_at_call 72;refine (r5add_any (T3.out.rd.ext XE) O7.out.rd (HZF.out.bits.le (by decide)) ((HZP.out.mul HZC.out).bits.le (by decide))).mono ?_;rintro e w8 ⟨v8,rfl,b8,o8⟩;have O8:=Lib.hid o8;clear o8;(first | have XE:=Ext.trans XE b8 | have XE:=Ext.trans (Ext.trans XE (Ext.alloc _ _)) b8);obtain ⟨_,_,_,_,_,_,_,rfl,P8⟩:=O8.out.op
   go_wp2_with fail
   refine hK.out _ _ (⟨(T1.out.ext XE).c3,(CP.out.ext XE).c3,(C4.out.ext XE).c5⟩) (fun hHeld=>?_)
   clear hK K
   try simp only [jP,jA,jB,jC,jD,jE,jF]
   obtain ⟨_,_,_,j0,j1,j2,i0,i1,i2⟩:=(T2.out.ext XE).rm.c3
   refine wpAnyL_ready (rs:=[11]) (by kernel_rfl) (by simp) ?_
   refine AllReadyL.last (o:=_) rfl (fun K hK=>?_)
   go_simp
   refine hK.out _ _ ?_
   clear hK K
   try simp only [jP,jA,jB,jC,jD,jE,jF]
   refine wpAnyL_done (by kernel_rfl) ?_ _
   refine NoPanic.normal ?_
   go_wp2_with fail
   go_roundw
   case rel=>exact ⟨j+1,by go_num,by omega,put3_below (Ext.trans hx (Ext.trans b4 XE)) (Nat.le_refl _) _ _ _,by
    rw [HSN.out]
    exact Bp.set (T2.out.ext XE) (by decide) (P8.out.mono (Nat.zero_le _))⟩
   case measure=>simp [intOf] <;> omega
  ·obtain rfl:j=L.length:=by omega
   have hd:decide ((L.length:Int) < (L.length:Int))=false:=decide_eq_false (by omega)
   have hz:(L.zip P).take L.length=L.zip P:=List.take_of_length_le (by rw [List.length_zip];omega)
   rw [hz] at hC
   clear hz
   obtain ⟨s0,e1,n1,g1,e2,n2,g2,T1,T2,T3⟩:=hC.out.op
   obtain ⟨k0,k1,k2⟩:=T1.out.c3
   have RR:=Lib.hid (R1.out.ext (Ext.trans b2 hx))
   obtain ⟨_,_,_,j0,j1,j2,i0,i1,i2⟩:=RR.out.rm.c3
   go_wp2_with fail
   refine bodyPost_ret (v:=.agg #[.bool s0,.slice e1 n1 g1,.slice e2 n2 g2]) (by simp [results,Tryz.results92,go_sem,j0,j1,j2]) rfl ?_
   exact hR.out _ _ (Gives.mk (put3_below (Ext.trans b02 hx) (Nat.le_refl _) _ _ _) (T3.out.putT RR.out (by decide) 0 [_,_,_]))
open Go.RowKit Go.Att

set_option linter.unusedSimpArgs false in
set_option maxHeartbeats 4000000 in
set_option maxRecDepth 100000 in
theorem const20_any {w:World} {va vb:Value} {L:List AT} {P:List Rat} (ha:RdRow 5 OwnB9 w va L) (hb:RdRow 3 (OwnPp 4) w vb P) (hz:TzP L P) (hlen:L.length=P.length) (hn:L.length≤10):
  Calls Tryz.prog 93 #[va,vb] w (Gives w fun v' w'=>OwnP 4 0 w' v' (fct (L.zip P))):=by
 refine via fun R hR=>?_
 have HA:=Lib.hid ha
 have HB:=Lib.hid hb
 have HLEN:=Lib.hid hlen
 have HN:=Lib.hid hn
 have HL:=Lib.hid hz.sm
 have HP:=Lib.hid hz.sp
 have HZS:=Lib.hid hz.sc
 obtain ⟨aa,ka,rfl,-,-⟩:=ha.shape
 obtain ⟨ab,kb,rfl,-,-⟩:=hb.shape
 clear ha hb hlen hn hz
 have HI:Hid (∀ w,Calls Tryz.prog 98 #[.int .i64 0] w (Gives w fun v' w'=>OwnP 4 0 w' v' 0)):=fun w=>by
  have h:=r5int_any (w:=w) (u:=0) (by omega)
  have e:((0:Int):Rat)=0:=by decide +kernel
  rw [e] at h
  exact h.mono fun _ _ ⟨v,e,b,o⟩=>⟨v,e,b,o.mono (Nat.zero_le _)⟩
 obtain ⟨w1,hw1,b1,c1,r1,-⟩:=bx1 w [.bool false,.slice none 0 0,.slice none 0 0] 81
 have HW:=Lib.hid hw1
 have R1:Hid (Rt w1 w.heap.size 3 81):=by
  show Rt _ _ _ _
  rw [hw1]
  exact Rt.new w [.bool false,.slice none 0 0,.slice none 0 0] 81
 clear c1 r1 hw1
 go_enter Tryz.func93,Tryz.ntmps93
 go_upto_region 1 with (fail)
 rw [← HW.out]
 clear HW
 go_wp2_with fail
 refine (HI.out _).mono ?_
 rintro e w2 ⟨_,rfl,b2,o2⟩
 obtain ⟨s8,a8,l8,c8,a7,l7,c7,rfl,O2⟩:=o2.op
 clear o2
 obtain ⟨w3,hw3,b3,hC3⟩:∃ W,W=w2.alloc (.cells #[.bool s8,.slice a8 l8 c8,.slice a7 l7 c7] 81)∧Ext w2 W∧Bp 4 81 W w2.heap.size 0:=⟨_,rfl,Ext.alloc _ _,Bp.new O2.out⟩
 have HW:=Lib.hid hw3
 clear hw3 O2
 go_upto_region 2 with (fail)
 rw [← HW.out]
 clear HW
 have b02:=Ext.trans b1 b2
 go_wp2_with fail
 go_loopw [11] (fun t wr=>∃ j:Nat,t=.int .i64 j∧j≤L.length∧Ext w2 wr∧Hid (Bp 4 81 wr w2.heap.size (fct ((L.zip P).take j)))) (fun t _=>L.length - (intOf t).toNat)
 case atStart=>exact ⟨0,rfl,Nat.zero_le _,b3,by rw [List.take_zero];exact hC3⟩
 case round=>
  clear hC3
  obtain ⟨j,rfl,hj,hx,hC⟩:=hrel
  have hnl:=HN.out
  by_cases hjl:j < L.length
  ·have hd:decide ((j:Int) < (L.length:Int))=true:=decide_eq_true (by omega)
   have hjP:j < P.length:=by have:=HLEN.out;omega
   have b0r:=Ext.trans b02 hx
   obtain ⟨bA,oA,xa,xk,xs,xb,xm,xd,xb',xm',xd',hae,hbo,hax⟩:=HA.out.btm j hjl
   subst hae
   obtain ⟨bP,oP,ps,pa,pl,pk,pa',pl',pk',hpe,hpo,hpq⟩:=HB.out.op' j hjP
   subst hpe
   obtain ⟨u0,u1,u2,u3,u4⟩:=(hbo.ext b0r).c5
   have hJ1:IntKind.i64.wrap (j:Int)=(j:Int):=by rw [IntKind.wrap_i64];omega
   have hJ2:(0:Int)≤(j:Int)∧(j:Int) < (L.length:Int):=⟨by omega,by omega⟩
   have hJ3:(0:Int)≤(j:Int)∧(j:Int) < (P.length:Int):=⟨by omega,by omega⟩
   have HSN:Hid (fct ((L.zip P).take (j+1))=fct ((L.zip P).take j)+gt P j*L[j].1.2):=by
    show _=_
    rw [zip_snoc hjl hjP,fct_app,fct_one]
   have HZC:Hid (Sz 8 L[j].1.2):=(HL.out _ (List.getElem_mem hjl)).2.2
   have HZP:Hid (Sz 100 (gt P j)):=HP.out _ (gt_mem' hjP)
   have HZF:Hid (Sz 1301 (fct ((L.zip P).take j))):=HZS.out j
   obtain ⟨w4,hw4,b4,c4,-,-⟩:=bx1 wr [.slice xa L[j].1.1.length xk,.bool xs,.slice xb xm xd,.slice xb' xm' xd',.int .i64 L[j].2] 85
   have HW:=Lib.hid hw4
   have C4:=Lib.hid c4
   have x4:=Ext.trans b0r b4
   have HQA:Hid (OwnP 4 0 w4 (.agg #[.bool xs,.slice xb xm xd,.slice xb' xm' xd']) L[j].1.2):=by
    obtain ⟨_,_,_,_,he,-,h⟩:=hax
    simp only [Value.agg.injEq,Array.mk.injEq,List.cons.injEq,and_true] at he
    obtain ⟨rfl,rfl,rfl,rfl⟩:=he
    exact h.ext x4
   have HQP:=Lib.hid (hpq.ext x4)
   have CP:=Lib.hid (hpo.ext x4)
   have hC4:=Lib.hid (hC.out.ext b4)
   clear hw4 c4 hbo hpo hpq hax hC
   generalize L[j].1.1.length=n1 at*
   generalize L[j].2=op at*
   generalize L[j].1.2=cj at*
   generalize gt P j=q at*
   go_upto_region 5 with (fail)
   rw [← HW.out]
   clear HW u0 u1 u2 u3 u4
   obtain ⟨s0,e1,n0,g1,e2,n2,g2,T1,T2,T3⟩:=hC4.out.op
   have b5:=drew_ext w4
   have XE:=b5
   refine wp_region_noPanic ?_
   refine wp_region_last_drew (st:=10) (S:=fun w'=>(w'.cell? ⟨w2.heap.size,0,none⟩=some (.bool s0)∧w'.cell? ⟨w2.heap.size,1,none⟩=some (.slice e1 n0 g1)∧w'.cell? ⟨w2.heap.size,2,none⟩=some (.slice e2 n2 g2))∧(w'.cell? ⟨bP,oP+j*3,none⟩=some (.bool ps)∧w'.cell? ⟨bP,oP+j*3+1,none⟩=some (.slice pa pl pk)∧w'.cell? ⟨bP,oP+j*3+2,none⟩=some (.slice pa' pl' pk'))∧(w'.cell? ⟨wr.heap.size,0,none⟩=some (.slice xa n1 xk)∧w'.cell? ⟨wr.heap.size,1,none⟩=some (.bool xs)∧w'.cell? ⟨wr.heap.size,2,none⟩=some (.slice xb xm xd)∧w'.cell? ⟨wr.heap.size,3,none⟩=some (.slice xb' xm' xd')∧w'.cell? ⟨wr.heap.size,4,none⟩=some (.int .i64 op))) (by kernel_rfl) (⟨(T1.out.ext XE).c3,(CP.out.ext XE).c3,(C4.out.ext XE).c5⟩) (fun hHeld=>?_)
   refine tkL 0 hHeld ?_
   simp only [jP,jA,jB,jC,jD,jE,jF]
   refine tkL 1 hHeld ?_
   simp only [jP,jA,jB,jC,jD,jE,jF]
   refine tkL 2 hHeld ?_
   simp only [jP,jA,jB,jC,jD,jE,jF]
   refine tkL 3 hHeld ?_
   simp only [jP,jA,jB,jC,jD,jE,jF]
   refine tkL 4 hHeld ?_
   simp only [jP,jA,jB,jC,jD,jE,jF]
   refine tkL 5 hHeld ?_
   simp only [jP,jA,jB,jC,jD,jE,jF]
   refine tkL 6 hHeld ?_
   simp only [jP,jA,jB,jC,jD,jE,jF]
   refine tkL 7 hHeld ?_
   simp only [jP,jA,jB,jC,jD,jE,jF]
   refine rdL 8 (by kernel_rfl) rfl (fun K hK=>?_)
   go_simp
   go_at_call 73;refine (r5mul_any (HQP.out.rd.ext XE) (HQA.out.rd.ext XE) (HZP.out.bits.le (by decide)) (HZC.out.bits.le (by decide))).mono ?_;rintro e w6 ⟨v6,rfl,b6,o6⟩;have O6:=Lib.hid o6;clear o6;(first | have XE:=Ext.trans XE b6 | have XE:=Ext.trans (Ext.trans XE (Ext.alloc _ _)) b6)
   go_wp2_with fail
   refine hK.out _ _ (⟨(T1.out.ext XE).c3,(CP.out.ext XE).c3,(C4.out.ext XE).c5⟩) (fun hHeld=>?_)
   clear hK K
   try simp only [jP,jA,jB,jC,jD,jE,jF]
   refine rdL 9 (by kernel_rfl) rfl (fun K hK=>?_)
   go_simp
   go_at_call 72;refine (r5add_any (T3.out.rd.ext XE) O6.out.rd (HZF.out.bits.le (by decide)) ((HZP.out.mul HZC.out).bits.le (by decide))).mono ?_;rintro e w7 ⟨v7,rfl,b7,o7⟩;have O7:=Lib.hid o7;clear o7;(first | have XE:=Ext.trans XE b7 | have XE:=Ext.trans (Ext.trans XE (Ext.alloc _ _)) b7);obtain ⟨_,_,_,_,_,_,_,rfl,P7⟩:=O7.out.op
   go_wp2_with fail
   refine hK.out _ _ (⟨(T1.out.ext XE).c3,(CP.out.ext XE).c3,(C4.out.ext XE).c5⟩) (fun hHeld=>?_)
   clear hK K
   try simp only [jP,jA,jB,jC,jD,jE,jF]
   obtain ⟨_,_,_,j0,j1,j2,i0,i1,i2⟩:=(T2.out.ext XE).rm.c3
   refine wpAnyL_ready (rs:=[10]) (by kernel_rfl) (by simp) ?_
   refine AllReadyL.last (o:=_) rfl (fun K hK=>?_)
   go_simp
   refine hK.out _ _ ?_
   clear hK K
   try simp only [jP,jA,jB,jC,jD,jE,jF]
   refine wpAnyL_done (by kernel_rfl) ?_ _
   refine NoPanic.normal ?_
   go_wp2_with fail
   go_roundw
   case rel=>exact ⟨j+1,by go_num,by omega,put3_below (Ext.trans hx (Ext.trans b4 XE)) (Nat.le_refl _) _ _ _,by
    rw [HSN.out]
    exact Bp.set (T2.out.ext XE) (by decide) (P7.out.mono (Nat.zero_le _))⟩
   case measure=>simp [intOf] <;> omega
  ·obtain rfl:j=L.length:=by omega
   have hd:decide ((L.length:Int) < (L.length:Int))=false:=decide_eq_false (by omega)
   have hz:(L.zip P).take L.length=L.zip P:=List.take_of_length_le (by rw [List.length_zip];omega)
   rw [hz] at hC
   clear hz
   obtain ⟨s0,e1,n1,g1,e2,n2,g2,T1,T2,T3⟩:=hC.out.op
   obtain ⟨k0,k1,k2⟩:=T1.out.c3
   have RR:=Lib.hid (R1.out.ext (Ext.trans b2 hx))
   obtain ⟨_,_,_,j0,j1,j2,i0,i1,i2⟩:=RR.out.rm.c3
   go_wp2_with fail
   refine bodyPost_ret (v:=.agg #[.bool s0,.slice e1 n1 g1,.slice e2 n2 g2]) (by simp [results,Tryz.results93,go_sem,j0,j1,j2]) rfl ?_
   exact hR.out _ _ (Gives.mk (put3_below (Ext.trans b02 hx) (Nat.le_refl _) _ _ _) (T3.out.putT RR.out (by decide) 0 [_,_,_]))
open Go.RowKit Go.Att

set_option linter.unusedSimpArgs false in
set_option maxHeartbeats 4000000 in
set_option maxRecDepth 100000 in
theorem strict20_any {w:World} {va vb:Value} {L:List AT} {P:List Rat} (ha:RdRow 5 OwnB9 w va L) (hb:RdRow 3 (OwnPp 4) w vb P) (hlen:L.length=P.length) (hn:L.length≤1000):
  Calls Tryz.prog 94 #[va,vb] w (Gives w fun v' _=>v'=.bool (fst' (L.zip P))):=by
 refine via fun R hR=>?_
 have HA:=Lib.hid ha
 have HB:=Lib.hid hb
 have HLEN:=Lib.hid hlen
 have HN:=Lib.hid hn
 obtain ⟨aa,ka,rfl,-,-⟩:=ha.shape
 obtain ⟨ab,kb,rfl,-,-⟩:=hb.shape
 clear ha hb hlen hn
 go_enter Tryz.func94,Tryz.ntmps94
 go_wp2_with fail
 go_loopw [9] (fun t wr=>∃ j:Nat,t=.int .i64 j∧j≤L.length∧Ext w wr∧Hid (fst' ((L.zip P).take j)=false)) (fun t _=>L.length - (intOf t).toNat)
 case atStart=>exact ⟨0,rfl,Nat.zero_le _,Ext.refl _,by rw [List.take_zero];rfl⟩
 case round=>
  obtain ⟨j,rfl,hj,hx,hF⟩:=hrel
  have hnl:=HN.out
  by_cases hjl:j < L.length
  ·have hd:decide ((j:Int) < (L.length:Int))=true:=decide_eq_true (by omega)
   have hjP:j < P.length:=by have:=HLEN.out;omega
   obtain ⟨bA,oA,xa,xk,xs,xb,xm,xd,xb',xm',xd',hae,hbo,-⟩:=HA.out.btm j hjl
   subst hae
   obtain ⟨bP,oP,ps,pa,pl,pk,pa',pl',pk',hpe,hpo,hpq⟩:=HB.out.op' j hjP
   subst hpe
   obtain ⟨u0,u1,u2,u3,u4⟩:=(hbo.ext hx).c5
   have hJ1:IntKind.i64.wrap (j:Int)=(j:Int):=by rw [IntKind.wrap_i64];omega
   have hJ2:(0:Int)≤(j:Int)∧(j:Int) < (L.length:Int):=⟨by omega,by omega⟩
   have hJ3:(0:Int)≤(j:Int)∧(j:Int) < (P.length:Int):=⟨by omega,by omega⟩
   have HST:Hid (fst' ((L.zip P).take (j+1))=(L[j].2 == 2 && decide (0 < (gt P j).num.sign))):=by
    show _=_
    rw [zip_snoc hjl hjP,fst_app,fst_one,hF.out,Bool.false_or]
   have HTT:Hid (fst' ((L.zip P).take (j+1))=true→fst' (L.zip P)=true):=fun h=>by
    rw [← List.take_append_drop (j+1) (L.zip P),fst_app,h];rfl
   obtain ⟨w4,hw4,b4,c4,-,-⟩:=bx1 wr [.slice xa L[j].1.1.length xk,.bool xs,.slice xb xm xd,.slice xb' xm' xd',.int .i64 L[j].2] 85
   have HW:=Lib.hid hw4
   have C4:=Lib.hid c4
   have HSG:Hid (Calls Tryz.prog 71 #[.agg #[.bool ps,.slice pa pl pk,.slice pa' pl' pk']] w4 (Gives w4 fun v' _=>v'=.int .i64 (gt P j).num.sign)):=r5sign_any (hpq.rd.ext (Ext.trans hx b4))
   have CP:=Lib.hid (hpo.ext (Ext.trans hx b4))
   clear hw4 c4 hbo hpo hpq
   generalize L[j].1.1.length=n1 at*
   generalize L[j].2=op at*
   generalize (gt P j).num.sign=sg at*
   go_upto_region 4 with (fail)
   rw [← HW.out]
   clear HW u0 u1 u2 u3 u4
   obtain ⟨k0,k1,k2,k3,k4⟩:=C4.out.c5
   have x4:=Ext.trans hx b4
   by_cases h2:op=2
   ·have e2:(op == 2)=true:=beqT h2
    rw [e2,Bool.true_and] at HST
    clear h2
    obtain ⟨t0,t1,t2⟩:=CP.out.c3
    go_wp2_with fail
    refine HSG.out.mono ?_
    rintro e w5 ⟨_,rfl,b5,rfl⟩
    by_cases hs:0 < sg
    ·have ds:decide (0 < sg)=true:=decide_eq_true hs
     have HV:Hid (fst' (L.zip P)=true):=HTT.out (by rw [HST.out,ds])
     clear hs
     go_wp2_with fail
     exact hR.out _ _ (Gives.mk (Ext.trans x4 b5) (by first | (rw [HV.out];done) | (rw [HV.out];rfl)))
    ·have ds:decide (0 < sg)=false:=decide_eq_false hs
     rw [ds] at HST
     clear hs
     go_wp2_with fail
     go_roundw
     case rel=>exact ⟨j+1,by go_num,by omega,Ext.trans x4 b5,HST.out⟩
     case measure=>simp [intOf] <;> omega
   ·have e2:(op == 2)=false:=beqF h2
    rw [e2,Bool.false_and] at HST
    clear h2
    go_wp2_with fail
    go_roundw
    case rel=>exact ⟨j+1,by go_num,by omega,x4,HST.out⟩
    case measure=>simp [intOf] <;> omega
  ·obtain rfl:j=L.length:=by omega
   have hd:decide ((L.length:Int) < (L.length:Int))=false:=decide_eq_false (by omega)
   have hz:(L.zip P).take L.length=L.zip P:=List.take_of_length_le (by rw [List.length_zip];omega)
   rw [hz] at hF
   clear hz
   go_wp2_with fail
   exact hR.out _ _ (Gives.mk hx (by first | (rw [hF.out];done) | (rw [hF.out];rfl)))
open Go.RowKit Go.Att

def RefD (L:List AT) (P:List Rat):Prop:=(∀ x,fcf (L.zip P) x=0)∧(0 < (fct (L.zip P)).num.sign∨(fct (L.zip P)).num.sign=0∧fst' (L.zip P)=true)
set_option linter.unusedSimpArgs false in
set_option maxHeartbeats 8000000 in
set_option maxRecDepth 100000 in
theorem refutes20_z {w:World} {va vb:Value} {L:List AT} {P:List Rat} (ha:RdRow 5 OwnB9 w va L) (hb:RdRow 3 (OwnPp 4) w vb P) (hz:TzP L P) (hlen:L.length=P.length) (hn:L.length≤10):
  Calls Tryz.prog 68 #[va,vb] w (Gives w fun v' _=>∃ t:Bool,v'=.bool t∧(t=true↔RefD L P)):=by
 refine via fun R hR=>?_
 have HCO:Hid (∀ w',Ext w w'→Calls Tryz.prog 93 #[va,vb] w' (Gives w' fun v' w'=>OwnP 4 0 w' v' (fct (L.zip P)))):=fun w' x=>const20_any (ha.ext OwnBt.ext x) (hb.ext OwnP.ext x) hz hlen hn
 have HST:Hid (∀ w',Ext w w'→Calls Tryz.prog 94 #[va,vb] w' (Gives w' fun v' _=>v'=.bool (fst' (L.zip P)))):=fun w' x=>strict20_any (ha.ext OwnBt.ext x) (hb.ext OwnP.ext x) hlen (by omega)
 have HAT:Hid (∀ w',Ext w w'→∀ x,Calls Tryz.prog 92 #[va,vb,.int .i64 x] w' (Gives w' fun v' w'=>OwnP 4 0 w' v' (fcf (L.zip P) x))):=fun w' x y=>at20_any (ha.ext OwnBt.ext x) (hb.ext OwnP.ext x) hz hlen hn
 have HVS:Hid (∀ w',Ext w w'→Calls Tryz.prog 91 #[va] w' (Gives w' fun v' w'=>∃ vs:List Int,RdRow 1 IntT w' v' vs∧vs.length≤10000000∧∀ y,fcf (L.zip P) y≠0→y∈vs)):=fun w' x=>(vars20_any (ha.ext OwnBt.ext x) (fun a h=>by have:=(hz.sm a h).1;omega) (by omega)).mono fun _ _ ⟨v,e,b,vs,h1,h2,h3,h4⟩=>⟨v,e,b,vs,h1,h2,fun y hy=>Classical.byContradiction fun hn=>hy (fcf_rest fun h=>hn ((h4 y).2 h))⟩
 have HDF:Hid (RefD L P↔(∀ x,fcf (L.zip P) x=0)∧(0 < (fct (L.zip P)).num.sign∨(fct (L.zip P)).num.sign=0∧fst' (L.zip P)=true)):=Iff.rfl
 obtain ⟨aa,ka,rfl,-,-⟩:=ha.shape
 obtain ⟨ab,kb,rfl,-,-⟩:=hb.shape
 clear ha hb hz hlen hn
 have HSF:Hid (∀ x w' v,OwnP 4 0 w' v (fcf (L.zip P) x)→Calls Tryz.prog 71 #[v] w' (Gives w' fun v' _=>v'=.int .i64 (fcf (L.zip P) x).num.sign)):=fun x w' v h=>r5sign_any h.rd
 have HSC:Hid (∀ w' v,OwnP 4 0 w' v (fct (L.zip P))→Calls Tryz.prog 71 #[v] w' (Gives w' fun v' _=>v'=.int .i64 (fct (L.zip P)).num.sign)):=fun w' v h=>r5sign_any h.rd
 generalize RefD L P=RD at*
 generalize fcf (L.zip P)=F at*
 generalize fct (L.zip P)=C at*
 generalize fst' (L.zip P)=S at*
 go_enter Tryz.func68,Tryz.ntmps68
 go_wp2_with fail
 refine (HVS.out _ (Ext.refl _)).mono ?_
 rintro e w1 ⟨_,rfl,b1,vs,hvs,hvl,hnz⟩
 have HV:=Lib.hid hvs
 have HNZ:=Lib.hid hnz
 obtain ⟨av,kv,rfl,hvk,hvm⟩:=hvs.shape
 clear hvs hnz HVS
 go_wp2_with fail
 go_loopw [11] (fun t wr=>∃ m:Nat,t=.int .i64 m∧m≤vs.length∧Ext w1 wr∧Hid (∀ x∈vs.take m,F x=0)) (fun t _=>vs.length - (intOf t).toNat)
 case atStart=>exact ⟨0,rfl,Nat.zero_le _,Ext.refl _,fun x hx=>by rw [List.take_zero] at hx;cases hx⟩
 case round=>
  obtain ⟨m,rfl,hm,hx,hF⟩:=hrel
  by_cases hml:m < vs.length
  ·have hd:decide ((m:Int) < (vs.length:Int))=true:=decide_eq_true (by omega)
   obtain ⟨bV,oV,rfl⟩:=HV.out.some_atI hml
   have hM1:IntKind.i64.wrap (m:Int)=(m:Int):=by rw [IntKind.wrap_i64];omega
   have hM2:(0:Int)≤(m:Int)∧(m:Int) < (vs.length:Int):=⟨by omega,by omega⟩
   have v0:=Ext.cell hx (HV.out.int m hml)
   have HTK:Hid (vs.take (m+1)=vs.take m ++ [vs[m]]):=(List.take_append_getElem hml).symm
   generalize vs[m]=x at*
   have HSX:=Lib.hid (HSF.out x)
   have HTR:Hid (F x=0↔(F x).num.sign=0):=num_sign_zero.symm
   go_wp2_with fail
   refine (HAT.out _ (Ext.trans b1 hx) x).mono ?_
   rintro e w10 ⟨v10,rfl,b10,o10⟩
   have HSG:=Lib.hid (HSX.out _ _ o10)
   generalize (F x).num.sign=sg at*
   clear o10 v0
   go_wp2_with fail
   refine HSG.out.mono ?_
   rintro e w15 ⟨_,rfl,b15,rfl⟩
   by_cases hs:sg=0
   ·have ds:(sg != 0)=false:=bneF hs
    have HX0:=Lib.hid (HTR.out.2 hs)
    clear hs
    go_wp2_with fail
    go_roundw
    case rel=>exact ⟨m+1,by go_num,by omega,Ext.trans hx (Ext.trans b10 b15),fun y hy=>by
     rw [HTK.out] at hy
     rcases List.mem_append.1 hy with hy | hy
     ·exact hF.out y hy
     ·rw [List.mem_singleton.1 hy];exact HX0.out⟩
    case measure=>simp [intOf] <;> omega
   ·have ds:(sg != 0)=true:=bneT hs
    have HNO:Hid (¬ RD):=fun h=>hs (HTR.out.1 ((HDF.out.1 h).1 x))
    clear hs
    go_wp2_with fail
    exact hR.out _ _ (Gives.mk (Ext.trans b1 (Ext.trans hx (Ext.trans b10 b15))) ⟨false,rfl,⟨(fun h=>by cases h),fun h=>(HNO.out h).elim⟩⟩)
  ·obtain rfl:m=vs.length:=by omega
   have hd:decide ((vs.length:Int) < (vs.length:Int))=false:=decide_eq_false (by omega)
   rw [List.take_length] at hF
   have HA0:Hid (∀ x,F x=0):=fun x=>Classical.byContradiction fun h=>h (hF.out x (HNZ.out x h))
   have b0r:=Ext.trans b1 hx
   go_wp2_with fail
   refine (HCO.out _ b0r).mono ?_
   rintro e w10 ⟨v10,rfl,b10,o10⟩
   have HSG:=Lib.hid (HSC.out _ _ o10)
   generalize C.num.sign=sg at*
   clear o10
   go_wp2_with fail
   refine HSG.out.mono ?_
   rintro e w15 ⟨_,rfl,b15,rfl⟩
   have b015:=Ext.trans b0r (Ext.trans b10 b15)
   by_cases h1:0 < sg
   ·have d1:decide (0 < sg)=true:=decide_eq_true h1
    have HYS:Hid RD:=HDF.out.2 ⟨HA0.out,.inl h1⟩
    clear h1
    go_wp2_with fail
    exact hR.out _ _ (Gives.mk b015 ⟨true,rfl,fun _=>HYS.out,fun _=>rfl⟩)
   ·have d1:decide (0 < sg)=false:=decide_eq_false h1
    by_cases h2:sg=0
    ·have d2:(sg == 0)=true:=beqT h2
     have HIF:Hid (S=true↔RD):=⟨fun h=>HDF.out.2 ⟨HA0.out,.inr ⟨h2,h⟩⟩,fun h=>by
      rcases (HDF.out.1 h).2 with h | h
      ·exact absurd h h1
      ·exact h.2⟩
     clear h1 h2
     go_wp2_with fail
     refine (HST.out _ b015).mono ?_
     rintro e w16 ⟨_,rfl,b16,rfl⟩
     go_wp2_with fail
     exact hR.out _ _ (Gives.mk (Ext.trans b015 b16) ⟨S,by first | rfl | simp,HIF.out⟩)
    ·have d2:(sg == 0)=false:=beqF h2
     have HNO:Hid (¬ RD):=fun h=>by
      rcases (HDF.out.1 h).2 with h | h
      ·exact h1 h
      ·exact h2 h.1
     clear h1 h2
     go_wp2_with fail
     exact hR.out _ _ (Gives.mk b015 ⟨false,rfl,⟨(fun h=>by cases h),fun h=>(HNO.out h).elim⟩⟩)
open Go.RowKit Go.Att

def chk20 (L:List AT) (P:List Rat):Int:=if L.length≠P.length then 1 else if (L.zip P).any fbad=true then 4 else 0
set_option linter.unusedSimpArgs false in
set_option maxHeartbeats 4000000 in
set_option maxRecDepth 100000 in
theorem check20_any {w:World} {va vb:Value} {L:List AT} {P:List Rat} (ha:RdRow 5 OwnB9 w va L) (hb:RdRow 3 (OwnPp 4) w vb P) (hn:L.length≤1000):
  Calls Tryz.prog 67 #[va,vb] w (Gives w fun v' _=>v'=.int .i64 (chk20 L P)):=by
 refine via fun R hR=>?_
 have HA:=Lib.hid ha
 have HB:=Lib.hid hb
 have HN:=Lib.hid hn
 obtain ⟨aa,ka,rfl,-,-⟩:=ha.shape
 obtain ⟨ab,kb,rfl,-,-⟩:=hb.shape
 clear ha hb hn
 go_enter Tryz.func67,Tryz.ntmps67
 by_cases hlen:L.length=P.length
 ·have hd0:((L.length:Int) != (P.length:Int))=false:=bneF (by omega)
  have HLEN:=Lib.hid hlen
  clear hlen
  go_wp2_with fail
  go_loopw [14] (fun t wr=>∃ j:Nat,t=.int .i64 j∧j≤L.length∧Ext w wr∧Hid (∀ z∈(L.zip P).take j,fbad z=false)) (fun t _=>L.length - (intOf t).toNat)
  case atStart=>exact ⟨0,rfl,Nat.zero_le _,Ext.refl _,fun z hz=>by rw [List.take_zero] at hz;cases hz⟩
  case round=>
   obtain ⟨j,rfl,hj,hx,hF⟩:=hrel
   have hnl:=HN.out
   by_cases hjl:j < L.length
   ·have hd:decide ((j:Int) < (L.length:Int))=true:=decide_eq_true (by omega)
    have hjP:j < P.length:=by have:=HLEN.out;omega
    obtain ⟨bA,oA,xa,xk,xs,xb,xm,xd,xb',xm',xd',hae,hbo,-⟩:=HA.out.btm j hjl
    subst hae
    obtain ⟨bP,oP,ps,pa,pl,pk,pa',pl',pk',hpe,hpo,hpq⟩:=HB.out.op' j hjP
    subst hpe
    obtain ⟨u0,u1,u2,u3,u4⟩:=(hbo.ext hx).c5
    have hJ1:IntKind.i64.wrap (j:Int)=(j:Int):=by rw [IntKind.wrap_i64];omega
    have hJ2:(0:Int)≤(j:Int)∧(j:Int) < (L.length:Int):=⟨by omega,by omega⟩
    have hJ3:(0:Int)≤(j:Int)∧(j:Int) < (P.length:Int):=⟨by omega,by omega⟩
    have HZS:=Lib.hid (zip_snoc hjl hjP)
    have HFB:Hid (fbad (L[j],gt P j)=(!(decide (1≤L[j].2∧L[j].2≤3)) || (L[j].2 != 3 && decide ((gt P j).num.sign < 0)))):=rfl
    have HYES:Hid (fbad (L[j],gt P j)=true→chk20 L P=4):=fun h=>by
     unfold chk20
     rw [if_neg (fun h=>h HLEN.out),if_pos (List.any_eq_true.2 ⟨_,List.mem_of_mem_take (by rw [HZS.out];exact List.mem_append_right _ List.mem_cons_self:(L[j],gt P j)∈(L.zip P).take (j+1)),h⟩)]
    have HNO:Hid (fbad (L[j],gt P j)=false→∀ z∈(L.zip P).take (j+1),fbad z=false):=fun h z hz=>by
     rw [HZS.out] at hz
     rcases List.mem_append.1 hz with hz | hz
     ·exact hF.out z hz
     ·rw [List.mem_singleton.1 hz];exact h
    obtain ⟨w4,hw4,b4,c4,-,-⟩:=bx1 wr [.slice xa L[j].1.1.length xk,.bool xs,.slice xb xm xd,.slice xb' xm' xd',.int .i64 L[j].2] 85
    have HW:=Lib.hid hw4
    have C4:=Lib.hid c4
    have HSG:Hid (Calls Tryz.prog 71 #[.agg #[.bool ps,.slice pa pl pk,.slice pa' pl' pk']] w4 (Gives w4 fun v' _=>v'=.int .i64 (gt P j).num.sign)):=r5sign_any (hpq.rd.ext (Ext.trans hx b4))
    have CP:=Lib.hid (hpo.ext (Ext.trans hx b4))
    clear hw4 c4 hbo hpo hpq
    generalize L[j].1.1.length=n1 at*
    generalize fbad (L[j],gt P j)=fb at*
    generalize L[j].2=op at*
    generalize (gt P j).num.sign=sg at*
    go_upto_region 6 with (fail)
    rw [← HW.out]
    clear HW u0 u1 u2 u3 u4
    obtain ⟨k0,k1,k2,k3,k4⟩:=C4.out.c5
    have x4:=Ext.trans hx b4
    by_cases h1:op < 1
    ·have d1:decide (op < 1)=true:=decide_eq_true h1
     have HV:Hid (chk20 L P=4):=HYES.out (by rw [HFB.out,decide_eq_false (fun h=>by omega)];rfl)
     clear h1
     go_wp2_with fail
     exact hR.out _ _ (Gives.mk x4 (by first | (rw [HV.out];done) | (rw [HV.out];rfl)))
    ·have d1:decide (op < 1)=false:=decide_eq_false h1
     by_cases h3:3 < op
     ·have d3:decide (3 < op)=true:=decide_eq_true h3
      have HV:Hid (chk20 L P=4):=HYES.out (by rw [HFB.out,decide_eq_false (fun h=>by omega)];rfl)
      clear h1 h3
      go_wp2_with fail
      exact hR.out _ _ (Gives.mk x4 (by first | (rw [HV.out];done) | (rw [HV.out];rfl)))
     ·have d3:decide (3 < op)=false:=decide_eq_false h3
      have hin:decide (1≤op∧op≤3)=true:=decide_eq_true ⟨by omega,by omega⟩
      rw [hin] at HFB
      clear hin h1 h3
      by_cases he:op=3
      ·have e3:(op != 3)=false:=bneF he
       rw [e3] at HFB
       have HV:=Lib.hid (HNO.out HFB.out)
       clear he
       go_wp2_with fail
       go_roundw
       case rel=>exact ⟨j+1,by go_num,by omega,x4,HV.out⟩
       case measure=>simp [intOf] <;> omega
      ·have e3:(op != 3)=true:=bneT he
       rw [e3] at HFB
       clear he
       obtain ⟨t0,t1,t2⟩:=CP.out.c3
       go_wp2_with fail
       refine HSG.out.mono ?_
       rintro e w5 ⟨_,rfl,b5,rfl⟩
       by_cases hs:sg < 0
       ·have ds:decide (sg < 0)=true:=decide_eq_true hs
        rw [ds] at HFB
        have HV:=Lib.hid (HYES.out HFB.out)
        clear hs
        go_wp2_with fail
        exact hR.out _ _ (Gives.mk (Ext.trans x4 b5) (by first | (rw [HV.out];done) | (rw [HV.out];rfl)))
       ·have ds:decide (sg < 0)=false:=decide_eq_false hs
        rw [ds] at HFB
        have HV:=Lib.hid (HNO.out HFB.out)
        clear hs
        go_wp2_with fail
        go_roundw
        case rel=>exact ⟨j+1,by go_num,by omega,Ext.trans x4 b5,HV.out⟩
        case measure=>simp [intOf] <;> omega
   ·obtain rfl:j=L.length:=by omega
    have hd:decide ((L.length:Int) < (L.length:Int))=false:=decide_eq_false (by omega)
    have hz:(L.zip P).take L.length=L.zip P:=List.take_of_length_le (by rw [List.length_zip];omega)
    rw [hz] at hF
    have HV:Hid (chk20 L P=0):=by
     show _=_
     unfold chk20
     rw [if_neg (fun h=>h HLEN.out),if_neg (fun h=>by
      obtain ⟨z,h1,h2⟩:=List.any_eq_true.1 h
      rw [hF.out z h1] at h2
      cases h2)]
    clear hz
    go_wp2_with fail
    exact hR.out _ _ (Gives.mk hx (by first | (rw [HV.out];done) | (rw [HV.out];rfl)))
 ·have hd0:((L.length:Int) != (P.length:Int))=true:=bneT (by omega)
  have HV:Hid (chk20 L P=1):=if_pos hlen
  clear hlen
  go_wp2_with fail
  exact hR.out _ _ (Gives.mk (Ext.refl _) (by first | (rw [HV.out];done) | (rw [HV.out];rfl)))
end Go.Proofs.YthpaifdfafjlcaaGreat
