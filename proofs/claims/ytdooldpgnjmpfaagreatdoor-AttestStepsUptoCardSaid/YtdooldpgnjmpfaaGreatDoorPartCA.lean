/- A group of texts: PNums, PAtom, PAtom2, PFarkSum -/
import Derived.Test.YtdooldpgnjmpfaaGreatDoorSq
import Derived.Test.YtdooldpgnjmpfaaGreatDoorPartBJ
import Derived.Test.YtdooldpgnjmpfaaGreatDoorPartAH
namespace Go.Proofs.YtdooldpgnjmpfaaGreatDoor
open Go.RowKit Go.Att

theorem etNums:ElemT Tryz.prog 52 87 (.agg #[.bool false,.slice none 0 0,.slice none 0 0]) 3 56:=ElemT.mk' Tryz.underlying52 (by kernel_rfl) rfl (by decide)
set_option maxRecDepth 100000 in
set_option maxHeartbeats 2000000 in
set_option linter.unusedSimpArgs false in
theorem nums_any {w:World} {v:Value} {l:List Rat} (hv:RdRow 3 RdQ w v l) (hs:∀ p∈l,Sz 1000000 p) (hl:l.length≤100000):
  Calls Tryz.prog 13 #[v] w (Gives w fun v' w'=>OwnRow 3 (OwnPp 4) 87 w.heap.size w' v' l):=by
 refine via fun R hR=>?_
 have HS:=Lib.hid hs
 obtain ⟨a,c,rfl,hlc,hcm⟩:=hv.shape
 have HV:=Lib.hid hv
 unfold maxLen at hcm
 clear hv hs
 go_enter Tryz.func13,Tryz.ntmps13
 go_wp2_with fail
 go_loopw [3,9] (fun o i wr=>∃ k:Nat,i=.int .i64 k∧k≤l.length∧Ext w wr∧Hid (OwnRow 3 (OwnPp 4) 87 w.heap.size wr o (l.take k))) (fun _ i _=>l.length - (intOf i).toNat)
 case atStart=>exact ⟨0,rfl,Nat.zero_le _,Ext.alloc _ _,by rw [List.take_zero];exact OwnRow.nilLit _ (Nat.le_refl _)⟩
 case round=>
  obtain ⟨k,rfl,hk,hx,hO⟩:=hrel
  have hsz:=hx.size
  by_cases hlt:k < l.length
  ·obtain ⟨b,off,cs,rfl,hcl,hT,hc⟩:=HV.out.at (by decide) k hlt
   obtain ⟨aa,ac,ab,ad,rfl⟩:=cells_Q hT
   have e0:=Ext.cell hx (hc 0 (by decide))
   have e1:=Ext.cell hx (hc 1 (by decide))
   have e2:=Ext.cell hx (hc 2 (by decide))
   have HSN:=Lib.hid (take_map_snoc id hlt)
   simp only [List.map_id,id] at HSN
   have HTT:=Lib.hid (RdQ.ext hT hx)
   have HSS:=Lib.hid (HS.out l[k] (List.getElem_mem hlt))
   simp only [List.getElem?_cons_zero,List.getElem?_cons_succ,Nat.add_zero] at e0 e1 e2
   generalize l[k]=p at*
   have HKL:Hid ((l.take k).length≤100000):=by show _≤_;simp;omega
   obtain ⟨w1,hw1,b1,c1,-,-⟩:=bx1 wr [.bool (decide (p.num < 0)),.slice aa (limbs p.num.natAbs).length ac,.slice ab (dens p.den).length ad] 59
   have HW:=Lib.hid hw1
   obtain ⟨k0,k1,k2⟩:=c1.c3
   clear hT hc hcl c1 hw1
   go_upto_region 5 with (fail)
   rw [← HW.out]
   clear HW e0 e1 e2
   go_wp2_with fail
   refine (told_any (HTT.out.ext b1) HSS.out).mono ?_
   rintro e w2 ⟨_,rfl,b2,o2⟩
   clear k0 k1 k2
   obtain ⟨s1,a1,l1,c1,a1',l1',c1',rfl,O2⟩:=o2.op
   have b02:=hx.trans (b1.trans b2)
   have hO1:=Lib.hid (hO.out.ext OwnP.ext (b1.trans b2))
   clear o2
   go_wp2_with (at_builtin;refine append_rowL (y:=p) etNums (kdP (e:=4) (by decide)) (by rfl) _ _ (by rfl) w.heap.size (by rfl) _ (by rfl) hO1.out rfl (O2.out.mono (Nat.zero_le _)) (Below.size b02) (by have:=HKL.out;omega) (by unfold maxLen;have:=HKL.out;omega) ?_;intro v9 w9 o9 b9 g9)
   go_roundw
   case rel=>
    refine ⟨k+1,by go_num,by omega,Below.trans b02 b9,?_⟩
    rw [HSN.out]
    exact o9
   case measure=>simp [intOf] <;> omega
  ·obtain rfl:k=l.length:=by omega
   have HX:Hid (l.take l.length=l):=List.take_length
   go_wp2_with fail
   exact hR.out _ _ (Gives.mk hx (by rw [← HX.out];exact hO.out))
open Go.RowKit Go.Att

abbrev OwnA (w:World) (v:Value) (p:AT):Prop:=OwnAt 119 90 w v p
def chk (op:Int):Int:=if 1≤op∧op≤3 then 0 else 4
set_option linter.unusedSimpArgs false in
set_option maxHeartbeats 4000000 in
set_option maxRecDepth 100000 in
theorem check9_any {w:World} {v:Value} {p:AT} (hv:OwnA w v p):
  Calls Tryz.prog 15 #[v] w (Gives w fun v' _=>v'=.int .i64 (chk p.2)):=by
 refine via fun R hR=>?_
 obtain ⟨a,k,s,b,m,d,b',m',d',rfl,-⟩:=hv.op
 clear hv
 obtain ⟨w1,hw1,b1,c1,-,-⟩:=bx1 w [.slice a p.1.1.length k,.bool s,.slice b m d,.slice b' m' d',.int .i64 p.2] 63
 have HW:=Lib.hid hw1
 have C1:=Lib.hid c1
 clear hw1 c1
 go_enter Tryz.func15,Tryz.ntmps15
 go_upto_region 1 with (fail)
 rw [← HW.out]
 clear HW
 obtain ⟨k0,k1,k2,k3,k4⟩:=C1.out.c5
 by_cases h1:p.2 < 1
 ·have hd1:decide (p.2 < 1)=true:=decide_eq_true h1
  have hc:chk p.2=4:=if_neg (fun h=>by omega)
  go_wp2_with fail
  exact hR.out _ _ (Gives.mk b1 (by first | (rw [hc];done) | (rw [hc];rfl)))
 ·have hd1:decide (p.2 < 1)=false:=decide_eq_false h1
  by_cases h3:3 < p.2
  ·have hd3:decide (3 < p.2)=true:=decide_eq_true h3
   have hc:chk p.2=4:=if_neg (fun h=>by omega)
   go_wp2_with fail
   exact hR.out _ _ (Gives.mk b1 (by first | (rw [hc];done) | (rw [hc];rfl)))
  ·have hd3:decide (3 < p.2)=false:=decide_eq_false h3
   have hc:chk p.2=0:=if_pos ⟨by omega,by omega⟩
   go_wp2_with fail
   exact hR.out _ _ (Gives.mk b1 (by first | (rw [hc];done) | (rw [hc];rfl)))
set_option linter.unusedSimpArgs false in
set_option maxHeartbeats 4000000 in
set_option maxRecDepth 100000 in
theorem says_any {w:World} {v:Value} {q:Rat} {op:Int} (hv:OwnQ 119 0 w v q):
  Calls Tryz.prog 49 #[.int .i64 op,v] w (Gives w fun v' _=>v'=.bool (says op q)):=by
 refine via fun R hR=>?_
 have HS:Hid (∀ w',Ext w w'→Calls Tryz.prog 69 #[v] w' (Gives w' fun v' _=>v'=.int .i64 q.num.sign)):=fun w' x=>rsign_any (hv.rd.ext x)
 obtain ⟨s,a,l,c,a',l',c',rfl,-⟩:=hv.op
 clear hv
 unfold says at hR
 generalize q.num.sign=sg at*
 obtain ⟨w1,hw1,b1,c1,-,-⟩:=bx1 w [.bool s,.slice a l c,.slice a' l' c'] 59
 have HW:=Lib.hid hw1
 have C1:=Lib.hid c1
 clear hw1 c1
 go_enter Tryz.func49,Tryz.ntmps49
 go_upto_region 1 with (fail)
 rw [← HW.out]
 clear HW
 obtain ⟨k0,k1,k2⟩:=C1.out.c3
 go_wp2_with fail
 refine (HS.out _ b1).mono ?_
 rintro e w2 ⟨_,rfl,b2,rfl⟩
 clear k0 k1 k2
 by_cases h0:sg=0
 ·have e0:(sg == 0)=true:=beqT h0
  by_cases h2:op=2
  ·have e2:(op != 2)=false:=bneF h2
   have hlt:decide (sg < 0)=false:=decide_eq_false (by omega)
   go_wp2_with fail
   exact hR.out _ _ (Gives.mk (Ext.trans b1 b2) (by rw [e0,e2,hlt];rfl))
  ·have e2:(op != 2)=true:=bneT h2
   go_wp2_with fail
   exact hR.out _ _ (Gives.mk (Ext.trans b1 b2) (by rw [e0,e2];rfl))
 ·have e0:(sg == 0)=false:=beqF h0
  by_cases hl:sg < 0
  ·have hlt:decide (sg < 0)=true:=decide_eq_true hl
   by_cases h3:op=3
   ·have e3:(op != 3)=false:=bneF h3
    go_wp2_with fail
    exact hR.out _ _ (Gives.mk (Ext.trans b1 b2) (by rw [e0,e3];simp))
   ·have e3:(op != 3)=true:=bneT h3
    go_wp2_with fail
    exact hR.out _ _ (Gives.mk (Ext.trans b1 b2) (by rw [e0,e3,hlt];rfl))
  ·have hlt:decide (sg < 0)=false:=decide_eq_false hl
   go_wp2_with fail
   exact hR.out _ _ (Gives.mk (Ext.trans b1 b2) (by rw [e0,hlt];rfl))
open Go.RowKit Go.Att

theorem put5_below {w0 w:World} {B:Nat} (h:Ext w0 w) (hB:w0.heap.size≤B) (x0 x1 x2 x3 x4:Value):Ext w0 (((((w.setCell ⟨B,0,none⟩ x0).setCell ⟨B,1,none⟩ x1).setCell ⟨B,2,none⟩ x2).setCell ⟨B,3,none⟩ x3).setCell ⟨B,4,none⟩ x4):=putL_below hB [x0,x1,x2,x3,x4] 0 h
set_option linter.unusedSimpArgs false in
set_option maxHeartbeats 4000000 in
set_option maxRecDepth 100000 in
theorem of9_any {w:World} {v:Value} {p:NAT} (hv:RdNA w v p) (hs:∀ t∈p.1.1,Nlt 1000000000 t.2) (hn:Nlt 1000000000 p.1.2):
  Calls Tryz.prog 19 #[v] w (Gives w fun v' w'=>OwnA w' v' (atA p)):=by
 refine via fun R hR=>?_
 obtain ⟨a,k,y,z,rfl,hE⟩:=hv.op
 have HEX:Hid (∀ w',Ext w w'→Calls Tryz.prog 32 #[.agg #[.slice a p.1.1.length k,.bool p.1.2.1,y,z]] w' (Gives w' fun v' w'=>OwnX 0 w' v' (tL p.1.1) (qN p.1.2))):=fun w' x=>expr8_sm (hE.ext x) hs hn
 clear hv hs hn hE
 unfold atA at hR
 generalize tL p.1.1=la at*
 generalize qN p.1.2=ca at*
 generalize p.2=op at*
 generalize p.1.2.1=sg at*
 generalize p.1.1.length=n0 at*
 obtain ⟨w1,hw1,b1,c1,c2,-,-,-⟩:=bx2 w [.slice a n0 k,.bool sg,y,z,.int .i64 op] [.slice none 0 0,.bool false,.slice none 0 0,.slice none 0 0,.int .i64 0] 75 63
 have HW:=Lib.hid hw1
 have C1:=Lib.hid c1
 have R2:Hid (Rt w1 (w.heap.size+1) 5 63):=by
  show Rt _ _ _ _
  rw [hw1]
  have:=Rt.new (w.alloc (.cells #[.slice a n0 k,.bool sg,y,z,.int .i64 op] 75)) [.slice none 0 0,.bool false,.slice none 0 0,.slice none 0 0,.int .i64 0] 63
  simpa using this
 clear c1 c2 hw1
 go_enter Tryz.func19,Tryz.ntmps19
 go_upto_region 1 with (fail)
 rw [← HW.out]
 clear HW
 have b2:=drew_ext w1
 have XE:=b2
 refine wp_region_noPanic ?_
 refine wp_region_last_drew (st:=6) (S:=fun w'=>w'.cell? ⟨w.heap.size,0,none⟩=some (.slice a n0 k)∧w'.cell? ⟨w.heap.size,1,none⟩=some (.bool sg)∧w'.cell? ⟨w.heap.size,2,none⟩=some (y)∧w'.cell? ⟨w.heap.size,3,none⟩=some (z)∧w'.cell? ⟨w.heap.size,4,none⟩=some (.int .i64 op)) (by kernel_rfl) ((C1.out.ext XE).c5) (fun hHeld=>?_)
 refine tkL 0 hHeld ?_
 simp only [jP,jA,jB,jC,jD,jE,jF]
 refine tkL 1 hHeld ?_
 simp only [jP,jA,jB,jC,jD,jE,jF]
 refine tkL 3 hHeld ?_
 simp only [jP,jA,jB,jC,jD,jE,jF]
 refine tkL 4 hHeld ?_
 simp only [jP,jA,jB,jC,jD,jE,jF]
 refine rdL 2 (by kernel_rfl) rfl (fun K hK=>?_)
 go_simp
 go_at_call 32;refine (HEX.out _ (Ext.trans b1 XE)).mono ?_;rintro e w3 ⟨v3,rfl,b3,o3⟩;have O3:=Lib.hid o3;clear o3;(first | have XE:=Ext.trans XE b3 | have XE:=Ext.trans (Ext.trans XE (Ext.alloc _ _)) b3);obtain ⟨a3,k3,s3,d3,m3,e3,d4,m4,e4,rfl,-,-,O4⟩:=OwnEx.op O3.out
 go_wp2_with fail
 refine hK.out _ _ ((C1.out.ext XE).c5) (fun hHeld=>?_)
 clear hK K
 try simp only [jP,jA,jB,jC,jD,jE,jF]
 refine tkL 5 hHeld ?_
 simp only [jP,jA,jB,jC,jD,jE,jF]
 obtain ⟨_,_,_,_,_,j0,j1,j2,j3,j4,i0,i1,i2,i3,i4⟩:=(R2.out.ext XE).c5
 refine wpAnyL_ready (rs:=[6]) (by kernel_rfl) (by simp) ?_
 refine AllReadyL.last (o:=_) rfl (fun K hK=>?_)
 go_simp
 refine hK.out _ _ ?_
 clear hK K
 try simp only [jP,jA,jB,jC,jD,jE,jF]
 refine wpAnyL_done (by kernel_rfl) ?_ _
 refine NoPanic.normal ?_
 go_wp2_with fail
 refine bodyPost_ret (v:=.agg #[.slice a3 la.length k3,.bool s3,.slice d3 m3 e3,.slice d4 m4 e4,.int .i64 op]) (by simp [results,Tryz.results19,go_sem,j0,j1,j2,j3,j4]) rfl ?_
 exact hR.out _ _ (Gives.mk (put5_below (Ext.trans b1 XE) (by omega) _ _ _ _ _) ⟨_,_,_,_,rfl,O4.out.putT (R2.out.ext XE) (by decide) (by decide) 0 [_,_,_,_,_]⟩)
theorem etAt:ElemT Tryz.prog 32 63 (.agg #[.slice none 0 0,.bool false,.slice none 0 0,.slice none 0 0,.int .i64 0]) 5 88:=ElemT.mk' Tryz.underlying32 (by kernel_rfl) rfl (by decide)
open Go.RowKit Go.Att

def SumS (L:List AT) (P:List Rat) (w:World) (BO j:Nat) (sb:Bool):Prop:=
 ∃ l a k s b m d b' m' d',Bx w BO [.slice a l.length k,.bool s,.slice b m d,.slice b' m' d']∧Rt w BO 4 61∧OwnX 0 w (.agg #[.slice a l.length k,.bool s,.slice b m d,.slice b' m' d']) l (fct ((L.zip P).take j))∧
  FormT l∧(∀ x,cf l x=fcf ((L.zip P).take j) x)∧l.length≤12*j∧sb=fst' ((L.zip P).take j)∧(∀ z∈(L.zip P).take j,fbad z=false)
theorem SumS.ext {L:List AT} {P:List Rat} {w w':World} {BO j:Nat} {sb:Bool} (h:SumS L P w BO j sb) (x:Ext w w'):SumS L P w' BO j sb:=by
 obtain ⟨l,a,k,s,b,m,d,b',m',d',h1,h2,h3,h4⟩:=h
 exact ⟨l,a,k,s,b,m,d,b',m',d',h1.ext x,h2.ext x,h3.ext x,h4⟩
theorem put4z_below {w0 w:World} {B:Nat} (h:Ext w0 w) (hB:w0.heap.size≤B) (x0 x1 x2 x3:Value):Ext w0 ((((w.setCell ⟨B,0,none⟩ x0).setCell ⟨B,1,none⟩ x1).setCell ⟨B,2,none⟩ x2).setCell ⟨B,3,none⟩ x3):=putL_below hB [x0,x1,x2,x3] 0 h
theorem SumR.putT {L:List AT} {P:List Rat} {w:World} {u:Value} {sb:Bool} {e:Int} (h:SumR L P w u sb e) {c:Nat} (hc:Rt w c 4 61) (cs:List Value):SumR L P (Att.putL w c 0 cs) u sb e:=by
 unfold SumR at*
 split
 ·rename_i h1
  rw [if_pos h1] at h
  exact ⟨h.1.putT hc (by decide) (by decide) 0 cs,h.2⟩
 ·rename_i h1
  rw [if_neg h1] at h
  split
  ·rename_i h2
   rw [if_pos h2] at h
   exact ⟨h.1.putT hc (by decide) (by decide) 0 cs,h.2⟩
  ·rename_i h2
   rw [if_neg h2] at h
   obtain ⟨l,g1,g2,g3,g4,g5,g6⟩:=h
   exact ⟨l,g1,g2,g3,g4,g5,g6.putT hc (by decide) (by decide) 0 cs⟩
end Go.Proofs.YtdooldpgnjmpfaaGreatDoor
