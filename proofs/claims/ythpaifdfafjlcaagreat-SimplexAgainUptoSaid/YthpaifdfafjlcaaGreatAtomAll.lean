/- A group of texts: PAtom, PAtom2, Fark, PFarkSum, PFarkRef, AtomY, PAtomY, PAtomL -/
import Derived.Test.YthpaifdfafjlcaaGreatSq
import Derived.Test.YthpaifdfafjlcaaGreatAtom
import Derived.Test.YthpaifdfafjlcaaGreatR8All
import Derived.Test.YthpaifdfafjlcaaGreatNumsAll
import Derived.Test.YthpaifdfafjlcaaGreatLinPlain
namespace Go.Proofs.YthpaifdfafjlcaaGreat
open Go.RowKit Go.Att

abbrev OwnA (w:World) (v:Value) (p:AT):Prop:=OwnAt 115 68 w v p
def chk (op:Int):Int:=if 1≤op∧op≤3 then 0 else 4
set_option linter.unusedSimpArgs false in
set_option maxHeartbeats 4000000 in
set_option maxRecDepth 100000 in
theorem check9_any {w:World} {v:Value} {p:AT} (hv:OwnA w v p):
  Calls Tryz.prog 28 #[v] w (Gives w fun v' _=>v'=.int .i64 (chk p.2)):=by
 refine via fun R hR=>?_
 obtain ⟨a,k,s,b,m,d,b',m',d',rfl,-⟩:=hv.op
 clear hv
 obtain ⟨w1,hw1,b1,c1,-,-⟩:=bx1 w [.slice a p.1.1.length k,.bool s,.slice b m d,.slice b' m' d',.int .i64 p.2] 55
 have HW:=Lib.hid hw1
 have C1:=Lib.hid c1
 clear hw1 c1
 go_enter Tryz.func28,Tryz.ntmps28
 go_upto_region 1 with (fail)
 rw [← HW.out]
 clear HW
 obtain ⟨k0,k1,k2,k3,k4⟩:=C1.out.c5
 by_cases h1:p.2 < 1
 ·have hd1:decide (p.2 < 1)=true:=decide_eq_true h1
  have hc:chk p.2=4:=if_neg (fun h=>by omega)
  go_wp2_with fail
  exact hR.out _ _ (Gives.mk b1 (by first | (rw [hc];done) | (rw [hc];rfl)))
 ·have hd1:decide (p.2 < 1)=false:=decide_eq_false h1
  by_cases h3:3 < p.2
  ·have hd3:decide (3 < p.2)=true:=decide_eq_true h3
   have hc:chk p.2=4:=if_neg (fun h=>by omega)
   go_wp2_with fail
   exact hR.out _ _ (Gives.mk b1 (by first | (rw [hc];done) | (rw [hc];rfl)))
  ·have hd3:decide (3 < p.2)=false:=decide_eq_false h3
   have hc:chk p.2=0:=if_pos ⟨by omega,by omega⟩
   go_wp2_with fail
   exact hR.out _ _ (Gives.mk b1 (by first | (rw [hc];done) | (rw [hc];rfl)))
set_option maxRecDepth 100000 in
set_option maxHeartbeats 2000000 in
set_option linter.unusedSimpArgs false in
theorem rats20_any {w:World} {v:Value} {l:List NN} (hv:RdRow 3 RdNp w v l) (hs:∀ p∈l,Nlt 1000000000 p):
  Calls Tryz.prog 18 #[v] w (Gives w fun v' w'=>OwnRow 3 (OwnQp 115) 49 w.heap.size w' v' ((l.take 10).map qN)):=by
 refine via fun R hR=>?_
 have HS:=Lib.hid hs
 obtain ⟨a,c,rfl,hlc,hcm⟩:=hv.shape
 have HV:=Lib.hid hv
 unfold maxLen at hcm
 clear hv hs
 go_enter Tryz.func18,Tryz.ntmps18
 go_wp2_with fail
 go_loopw [3,4] (fun o i wr=>∃ k:Nat,i=.int .i64 k∧k≤l.length∧k≤10∧Ext w wr∧Hid (OwnRow 3 (OwnQp 115) 49 w.heap.size wr o ((l.take k).map qN))) (fun _ i _=>10 - (intOf i).toNat)
 case atStart=>exact ⟨0,rfl,Nat.zero_le _,Nat.zero_le _,Ext.alloc _ _,by rw [List.take_zero];exact OwnRow.nilLit _ (Nat.le_refl _)⟩
 case round=>
  obtain ⟨k,rfl,hk,hk2,hx,hO⟩:=hrel
  have hsz:=hx.size
  by_cases hlt:k < l.length
  ·by_cases h34:k < 10
   ·obtain ⟨b,off,cs,rfl,hcl,hT,hc⟩:=HV.out.at (by decide) k hlt
    obtain ⟨y,z,rfl⟩:=cells_N hT
    have e0:=Ext.cell hx (hc 0 (by decide))
    have e1:=Ext.cell hx (hc 1 (by decide))
    have e2:=Ext.cell hx (hc 2 (by decide))
    have HSN:=Lib.hid (take_map_snoc qN hlt)
    have HTT:=Lib.hid (RdNp.ext hT hx)
    have HSS:=Lib.hid (HS.out l[k] (List.getElem_mem hlt))
    simp only [List.getElem?_cons_zero,List.getElem?_cons_succ,Nat.add_zero] at e0 e1 e2
    generalize l[k]=p at*
    have HKL:Hid (((l.take k).map qN).length≤10):=by show _≤_;simp;omega
    clear hT hc
    go_wp2_with fail
    refine (of8_any HTT.out HSS.out.1 HSS.out.2).mono ?_
    rintro e w1 ⟨_,rfl,b1,o1⟩
    clear e0 e1 e2
    obtain ⟨s1,a1,l1,c1,a1',l1',c1',rfl,O1⟩:=o1.op
    have hO1:=Lib.hid (hO.out.ext OwnQ.ext b1)
    have b01:=hx.trans b1
    clear o1
    go_wp2_with (at_builtin;refine append_rowL (y:=qN p) etRats (kdQ (e:=115) (by decide)) (by rfl) _ _ (by rfl) w.heap.size (by rfl) _ (by rfl) hO1.out rfl (O1.out.mono (Nat.zero_le _)) (Below.size b01) (by have:=HKL.out;omega) (by unfold maxLen;have:=HKL.out;omega) ?_;intro v9 w9 o9 b9 g9)
    go_roundw
    case rel=>
     refine ⟨k+1,by go_num,by omega,by omega,Below.trans b01 b9,?_⟩
     rw [HSN.out]
     exact o9
    case measure=>simp [intOf] <;> omega
   ·obtain rfl:k=10:=by omega
    go_wp2_with fail
    exact hR.out _ _ (Gives.mk hx hO.out)
  ·obtain rfl:k=l.length:=by omega
   have HX:Hid ((l.take l.length).map qN=(l.take 10).map qN):=by show _=_;rw [List.take_length,List.take_of_length_le hk2]
   go_wp2_with fail
   exact hR.out _ _ (Gives.mk hx (by rw [← HX.out];exact hO.out))
open Go.RowKit Go.Att

theorem put5_below {w0 w:World} {B:Nat} (h:Ext w0 w) (hB:w0.heap.size≤B) (x0 x1 x2 x3 x4:Value):Ext w0 (((((w.setCell ⟨B,0,none⟩ x0).setCell ⟨B,1,none⟩ x1).setCell ⟨B,2,none⟩ x2).setCell ⟨B,3,none⟩ x3).setCell ⟨B,4,none⟩ x4):=putL_below hB [x0,x1,x2,x3,x4] 0 h
set_option linter.unusedSimpArgs false in
set_option maxHeartbeats 4000000 in
set_option maxRecDepth 100000 in
theorem of9_any {w:World} {v:Value} {p:NAT} (hv:RdNA w v p) (hs:∀ t∈p.1.1,Nlt 1000000000 t.2) (hn:Nlt 1000000000 p.1.2):
  Calls Tryz.prog 31 #[v] w (Gives w fun v' w'=>OwnA w' v' (atA p)):=by
 refine via fun R hR=>?_
 obtain ⟨a,k,y,z,rfl,hE⟩:=hv.op
 have HEX:Hid (∀ w',Ext w w'→Calls Tryz.prog 52 #[.agg #[.slice a p.1.1.length k,.bool p.1.2.1,y,z]] w' (Gives w' fun v' w'=>OwnX 0 w' v' (tL p.1.1) (qN p.1.2))):=fun w' x=>expr8_sm (hE.ext x) hs hn
 clear hv hs hn hE
 unfold atA at hR
 generalize tL p.1.1=la at*
 generalize qN p.1.2=ca at*
 generalize p.2=op at*
 generalize p.1.2.1=sg at*
 generalize p.1.1.length=n0 at*
 obtain ⟨w1,hw1,b1,c1,c2,-,-,-⟩:=bx2 w [.slice a n0 k,.bool sg,y,z,.int .i64 op] [.slice none 0 0,.bool false,.slice none 0 0,.slice none 0 0,.int .i64 0] 77 55
 have HW:=Lib.hid hw1
 have C1:=Lib.hid c1
 have R2:Hid (Rt w1 (w.heap.size+1) 5 55):=by
  show Rt _ _ _ _
  rw [hw1]
  have:=Rt.new (w.alloc (.cells #[.slice a n0 k,.bool sg,y,z,.int .i64 op] 77)) [.slice none 0 0,.bool false,.slice none 0 0,.slice none 0 0,.int .i64 0] 55
  simpa using this
 clear c1 c2 hw1
 go_enter Tryz.func31,Tryz.ntmps31
 go_upto_region 1 with (fail)
 rw [← HW.out]
 clear HW
 have b2:=drew_ext w1
 have XE:=b2
 refine wp_region_noPanic ?_
 refine wp_region_last_drew (st:=6) (S:=fun w'=>w'.cell? ⟨w.heap.size,0,none⟩=some (.slice a n0 k)∧w'.cell? ⟨w.heap.size,1,none⟩=some (.bool sg)∧w'.cell? ⟨w.heap.size,2,none⟩=some (y)∧w'.cell? ⟨w.heap.size,3,none⟩=some (z)∧w'.cell? ⟨w.heap.size,4,none⟩=some (.int .i64 op)) (by kernel_rfl) ((C1.out.ext XE).c5) (fun hHeld=>?_)
 refine tkL 0 hHeld ?_
 simp only [jP,jA,jB,jC,jD,jE,jF]
 refine tkL 1 hHeld ?_
 simp only [jP,jA,jB,jC,jD,jE,jF]
 refine tkL 3 hHeld ?_
 simp only [jP,jA,jB,jC,jD,jE,jF]
 refine tkL 4 hHeld ?_
 simp only [jP,jA,jB,jC,jD,jE,jF]
 refine rdL 2 (by kernel_rfl) rfl (fun K hK=>?_)
 go_simp
 go_at_call 52;refine (HEX.out _ (Ext.trans b1 XE)).mono ?_;rintro e w3 ⟨v3,rfl,b3,o3⟩;have O3:=Lib.hid o3;clear o3;(first | have XE:=Ext.trans XE b3 | have XE:=Ext.trans (Ext.trans XE (Ext.alloc _ _)) b3);obtain ⟨a3,k3,s3,d3,m3,e3,d4,m4,e4,rfl,-,-,O4⟩:=OwnEx.op O3.out
 go_wp2_with fail
 refine hK.out _ _ ((C1.out.ext XE).c5) (fun hHeld=>?_)
 clear hK K
 try simp only [jP,jA,jB,jC,jD,jE,jF]
 refine tkL 5 hHeld ?_
 simp only [jP,jA,jB,jC,jD,jE,jF]
 obtain ⟨_,_,_,_,_,j0,j1,j2,j3,j4,i0,i1,i2,i3,i4⟩:=(R2.out.ext XE).c5
 refine wpAnyL_ready (rs:=[6]) (by kernel_rfl) (by simp) ?_
 refine AllReadyL.last (o:=_) rfl (fun K hK=>?_)
 go_simp
 refine hK.out _ _ ?_
 clear hK K
 try simp only [jP,jA,jB,jC,jD,jE,jF]
 refine wpAnyL_done (by kernel_rfl) ?_ _
 refine NoPanic.normal ?_
 go_wp2_with fail
 refine bodyPost_ret (v:=.agg #[.slice a3 la.length k3,.bool s3,.slice d3 m3 e3,.slice d4 m4 e4,.int .i64 op]) (by simp [results,Tryz.results31,go_sem,j0,j1,j2,j3,j4]) rfl ?_
 exact hR.out _ _ (Gives.mk (put5_below (Ext.trans b1 XE) (by omega) _ _ _ _ _) ⟨_,_,_,_,rfl,O4.out.putT (R2.out.ext XE) (by decide) (by decide) 0 [_,_,_,_,_]⟩)
theorem etAt:ElemT Tryz.prog 26 55 (.agg #[.slice none 0 0,.bool false,.slice none 0 0,.slice none 0 0,.int .i64 0]) 5 88:=ElemT.mk' Tryz.underlying26 (by kernel_rfl) rfl (by decide)
set_option maxRecDepth 100000 in
set_option maxHeartbeats 4000000 in
set_option linter.unusedSimpArgs false in
theorem atoms_any {w:World} {v:Value} {l:List NAT} (hv:RdRow 5 RdNA w v l) (hs:∀ p∈l,(∀ t∈p.1.1,Nlt 1000000000 t.2)∧Nlt 1000000000 p.1.2):
  Calls Tryz.prog 10 #[v] w (Gives w fun v' w'=>OwnRow 5 OwnA 55 w.heap.size w' v' ((l.take 10).map atA)):=by
 refine via fun R hR=>?_
 have HS:=Lib.hid hs
 obtain ⟨a,c,rfl,hlc,hcm⟩:=hv.shape
 have HV:=Lib.hid hv
 unfold maxLen at hcm
 clear hv hs
 go_enter Tryz.func10,Tryz.ntmps10
 go_wp2_with fail
 go_loopw [3,4] (fun o i wr=>∃ k:Nat,i=.int .i64 k∧k≤l.length∧k≤10∧Ext w wr∧Hid (OwnRow 5 OwnA 55 w.heap.size wr o ((l.take k).map atA))) (fun _ i _=>10 - (intOf i).toNat)
 case atStart=>exact ⟨0,rfl,Nat.zero_le _,Nat.zero_le _,Ext.alloc _ _,by rw [List.take_zero];exact OwnRow.nilLit _ (Nat.le_refl _)⟩
 case round=>
  obtain ⟨k,rfl,hk,hk2,hx,hO⟩:=hrel
  have hsz:=hx.size
  by_cases hlt:k < l.length
  ·by_cases h34:k < 10
   ·obtain ⟨b,off,cs,rfl,hcl,hT,hc⟩:=HV.out.at (by decide) k hlt
    obtain ⟨xa,xk,xy,xz,he,-⟩:=hT.op
    have hcs:cs=[.slice xa l[k].1.1.length xk,.bool l[k].1.2.1,xy,xz,.int .i64 l[k].2]:=by simpa using he
    subst hcs
    have e0:=Ext.cell hx (hc 0 (by decide))
    have e1:=Ext.cell hx (hc 1 (by decide))
    have e2:=Ext.cell hx (hc 2 (by decide))
    have e3:=Ext.cell hx (hc 3 (by decide))
    have e4:=Ext.cell hx (hc 4 (by decide))
    have HSN:=Lib.hid (take_map_snoc atA hlt)
    have HOF:Hid (Calls Tryz.prog 31 #[.agg #[.slice xa l[k].1.1.length xk,.bool l[k].1.2.1,xy,xz,.int .i64 l[k].2]] wr (Gives wr fun v' w'=>OwnA w' v' (atA l[k]))):=of9_any (RdNA.ext hT hx) (HS.out l[k] (List.getElem_mem hlt)).1 (HS.out l[k] (List.getElem_mem hlt)).2
    simp only [List.getElem?_cons_zero,List.getElem?_cons_succ,Nat.add_zero] at e0 e1 e2 e3 e4
    have HKL:Hid (((l.take k).map atA).length≤10):=by show _≤_;simp;omega
    clear hT hc he hcl
    generalize atA l[k]=q at*
    generalize l[k].1.1.length=n1 at*
    generalize l[k].1.2.1=s1 at*
    generalize l[k].2=o1 at*
    go_wp2_with fail
    refine HOF.out.mono ?_
    rintro e w1 ⟨_,rfl,b1,h1⟩
    clear e0 e1 e2 e3 e4
    obtain ⟨a2,k2,s2,b2,m2,d2,b2',m2',d2',rfl,O1⟩:=h1.op
    have HQ1:=Lib.hid h1
    have hO1:=Lib.hid (hO.out.ext OwnAt.ext b1)
    have b01:=hx.trans b1
    clear h1 hO
    go_wp2_with (at_builtin;refine append_rowL (y:=q) etAt (kdAt (by decide) (by decide)) (by rfl) _ _ (by rfl) w.heap.size (by rfl) _ (by rfl) hO1.out rfl HQ1.out (Below.size b01) (by have:=HKL.out;omega) (by unfold maxLen;have:=HKL.out;omega) ?_;intro v9 w9 o9 b9 g9)
    go_roundw
    case rel=>
     refine ⟨k+1,by go_num,by omega,by omega,Below.trans b01 b9,?_⟩
     rw [HSN.out]
     exact o9
    case measure=>simp [intOf] <;> omega
   ·obtain rfl:k=10:=by omega
    go_wp2_with fail
    exact hR.out _ _ (Gives.mk hx hO.out)
  ·obtain rfl:k=l.length:=by omega
   have HX:Hid ((l.take l.length).map atA=(l.take 10).map atA):=by show _=_;rw [List.take_length,List.take_of_length_le hk2]
   go_wp2_with fail
   exact hR.out _ _ (Gives.mk hx (by rw [← HX.out];exact hO.out))
open Go.RowKit Go.Att

abbrev AZ:=AT × Rat
def fcf:List AZ→Int→Rat
 | [],_=>0
 | z :: l,x=>z.2*cf z.1.1.1 x+fcf l x
def fct:List AZ→Rat
 | []=>0
 | z :: l=>z.2*z.1.1.2+fct l
def fst':List AZ→Bool
 | []=>false
 | z :: l=>(z.1.2 == 2 && decide (0 < z.2.num.sign)) || fst' l
def fbad (z:AZ):Bool:=!(decide (1≤z.1.2∧z.1.2≤3)) || (z.1.2 != 3 && decide (z.2.num.sign < 0))
theorem fcf_app (l m:List AZ) (x:Int):fcf (l ++ m) x=fcf l x+fcf m x:=by
 induction l with
 | nil=>show fcf m x=0+_;rw [Rat.zero_add]
 | cons t l ih=>show _+fcf (l ++ m) x=(_+_)+_;rw [ih,Rat.add_assoc]
theorem fct_app (l m:List AZ):fct (l ++ m)=fct l+fct m:=by
 induction l with
 | nil=>show fct m=0+_;rw [Rat.zero_add]
 | cons t l ih=>show _+fct (l ++ m)=(_+_)+_;rw [ih,Rat.add_assoc]
theorem fst_app (l m:List AZ):fst' (l ++ m)=(fst' l || fst' m):=by
 induction l with
 | nil=>show fst' m=(false || _);rw [Bool.false_or]
 | cons t l ih=>show (_ || fst' (l ++ m))=((_ || _) || _);rw [ih,Bool.or_assoc]
theorem fcf_one (z:AZ) (x:Int):fcf [z] x=z.2*cf z.1.1.1 x:=by show _+0=_;rw [Rat.add_zero]
theorem fct_one (z:AZ):fct [z]=z.2*z.1.1.2:=by show _+0=_;rw [Rat.add_zero]
theorem fst_one (z:AZ):fst' [z]=(z.1.2 == 2 && decide (0 < z.2.num.sign)):=by show (_ || false)=_;rw [Bool.or_false]
theorem zip_snoc {L:List AT} {P:List Rat} {j:Nat} (h1:j < L.length) (h2:j < P.length):(L.zip P).take (j+1)=(L.zip P).take j ++ [(L[j],gt P j)]:=by
 have h3:j < (L.zip P).length:=by rw [List.length_zip];omega
 rw [← List.take_append_getElem h3,List.getElem_zip,gt_lt h2]
structure TzP (L:List AT) (P:List Rat):Prop where
 sm:∀ a∈L,Smx a.1.1 a.1.2
 sp:∀ p∈P,Sz 100 p
 sf:∀ j x,Sz 1301 (fcf ((L.zip P).take j) x)
 sc:∀ j,Sz 1301 (fct ((L.zip P).take j))
open Go.RowKit Go.Att

open Go.RowKit Go.Att

def RefV (L:List AT) (P:List Rat) (t:Bool) (e:Int):Prop:=
 if L.length≠P.length then t=false∧e=1
 else if (L.zip P).any fbad=true then t=false∧e=4
 else e=0∧(t=true↔(∀ x,fcf (L.zip P) x=0)∧(0 < (fct (L.zip P)).num.sign∨(fct (L.zip P)).num.sign=0∧fst' (L.zip P)=true))
def holdA (p:AT) (P:List Rat):Bool:=says p.2 (p.1.2+smv (cf p.1.1) P 0)
end Go.Proofs.YthpaifdfafjlcaaGreat

namespace Go.Att
open Go.RowKit

theorem OwnEy.grown {e t e':TypeId} {B':Nat} {w w':World} {v v':Value} {l:TL} {c:Rat} {B n size:Nat} {xs:List Value} (h:OwnEy e t B w v l c) (hr:w.ownsRow B' e' size v' n xs) (h1:e≠e') (h2:t≠e') (hg:w.grownBy w' v'.ownBlock):OwnEy e t B w' v l c:=by
 obtain ⟨s,x,y,z,rfl,h3,h4⟩:=h
 refine ⟨s,x,y,z,rfl,h3.grown (fun u a h=>h.grown hr h1 hg) hr h2 hg,?_⟩
 obtain ⟨n',d',he,g1,g2⟩:=h4
 exact ⟨n',d',he,owns_grown g1 hr h1 hg,owns_grown g2 hr h1 hg⟩
def OwnBt (e t:TypeId) (w:World) (v:Value) (p:AT):Prop:=∃ s x y z,v=.agg #[s,x,y,z,.int .i64 p.2]∧OwnEy e t 0 w (.agg #[s,x,y,z]) p.1.1 p.1.2
theorem OwnBt.ext {e t:TypeId} {w w':World} {v:Value} {p:AT} (h:OwnBt e t w v p) (x:Ext w w'):OwnBt e t w' v p:=by
 obtain ⟨a,b,c,d,rfl,h⟩:=h
 exact ⟨a,b,c,d,rfl,h.ext x⟩
theorem OwnBt.op {e t:TypeId} {w:World} {v:Value} {p:AT} (h:OwnBt e t w v p):∃ a k s b m d b' m' d',v=.agg #[.slice a p.1.1.length k,.bool s,.slice b m d,.slice b' m' d',.int .i64 p.2]∧Hid (OwnEy e t 0 w (.agg #[.slice a p.1.1.length k,.bool s,.slice b m d,.slice b' m' d']) p.1.1 p.1.2):=by
 obtain ⟨s,x,y,z,rfl,h⟩:=h
 obtain ⟨a,k,s,b,m,d,b',m',d',he,-,-,h1⟩:=h.op
 simp only [Value.agg.injEq,Array.mk.injEq,List.cons.injEq,and_true] at he
 obtain ⟨rfl,rfl,rfl,rfl⟩:=he
 exact ⟨a,k,s,b,m,d,b',m',d',rfl,h1⟩
theorem cells_Bt {e t:TypeId} {w:World} {cs:List Value} {p:AT} (h:OwnBt e t w (.agg cs.toArray) p):∃ a k s b m d b' m' d',cs=[.slice a p.1.1.length k,.bool s,.slice b m d,.slice b' m' d',.int .i64 p.2]∧OwnEy e t 0 w (.agg #[.slice a p.1.1.length k,.bool s,.slice b m d,.slice b' m' d']) p.1.1 p.1.2:=by
 obtain ⟨a,k,s,b,m,d,b',m',d',he,h1⟩:=h.op
 have:cs.toArray=#[.slice a p.1.1.length k,.bool s,.slice b m d,.slice b' m' d',.int .i64 p.2]:=by simpa using he
 exact ⟨a,k,s,b,m,d,b',m',d',by simpa using congrArg Array.toList this,h1.out⟩
theorem kdBt {e t e':TypeId} (h1:e≠e') (h2:t≠e'):Kd e' (OwnBt e t):=⟨fun h X=>h.ext X,fun h hr hg=>by
 obtain ⟨a,b,c,d,rfl,h⟩:=h
 exact ⟨a,b,c,d,rfl,h.grown hr h1 h2 hg⟩,fun h u hu=>by
 obtain ⟨a,k,s,b,m,d,b',m',d',rfl,-⟩:=cells_Bt h
 simp at hu
 rcases hu with rfl | rfl | rfl | rfl | rfl <;> rfl⟩
theorem RdRow.btm {e t:TypeId} {w:World} {a:Option Addr} {n c:Nat} {l:List AT} (h:RdRow 5 (OwnBt e t) w (.slice a n c) l) (i:Nat) (hi:i < l.length):
  ∃ b off x k s y m d y' m' d',a=some ⟨b,off,none⟩∧Bo w b (off+i*5) [.slice x l[i].1.1.length k,.bool s,.slice y m d,.slice y' m' d',.int .i64 l[i].2]∧OwnEy e t 0 w (.agg #[.slice x l[i].1.1.length k,.bool s,.slice y m d,.slice y' m' d']) l[i].1.1 l[i].1.2:=by
 obtain ⟨b1,o1,cs,he,hl,hT,hc⟩:=h.at (by decide) i hi
 obtain ⟨x,k,s,y,m,d,y',m',d',rfl,h2⟩:=cells_Bt hT
 exact ⟨b1,o1,x,k,s,y,m,d,y',m',d',he,Bo.of hc,h2⟩
end Go.Att

namespace Go.Proofs.YthpaifdfafjlcaaGreat
open Go.RowKit Go.Att

abbrev OwnB9 (w:World) (v:Value) (p:AT):Prop:=OwnBt 4 87 w v p
set_option linter.unusedSimpArgs false in
set_option maxHeartbeats 4000000 in
set_option maxRecDepth 100000 in
theorem told9_any {w:World} {v:Value} {p:AT} (hv:OwnA w v p) (hs:Smx p.1.1 p.1.2):
  Calls Tryz.prog 32 #[v] w (Gives w fun v' w'=>OwnB9 w' v' p):=by
 refine via fun R hR=>?_
 obtain ⟨a,k,s,b,m,d,b',m',d',rfl,HX⟩:=hv.op
 have HTO:Hid (∀ w',Ext w w'→Calls Tryz.prog 53 #[.agg #[.slice a p.1.1.length k,.bool s,.slice b m d,.slice b' m' d']] w' (Gives w' fun v' w'=>OwnY 0 w' v' p.1.1 p.1.2)):=fun w' x=>(told8_any (HX.out.rd.ext x) (fun t ht=>(hs.2.1 t ht).le (by decide)) (hs.2.2.le (by decide)) (by have:=hs.1;omega)).mono fun _ _ ⟨v,e,b,o⟩=>⟨v,e,b,o.mono (Nat.zero_le _)⟩
 clear hv hs HX
 obtain ⟨⟨la,ca⟩,op⟩:=p
 dsimp only at HTO ⊢
 obtain ⟨n,hn⟩:∃ n,la.length=n:=⟨_,rfl⟩
 rw [hn] at HTO ⊢
 clear hn
 obtain ⟨w1,hw1,b1,c1,c2,-,-,-⟩:=bx2 w [.slice a n k,.bool s,.slice b m d,.slice b' m' d',.int .i64 op] [.slice none 0 0,.bool false,.slice none 0 0,.slice none 0 0,.int .i64 0] 55 85
 have HW:=Lib.hid hw1
 have C1:=Lib.hid c1
 have R2:Hid (Rt w1 (w.heap.size+1) 5 85):=by
  show Rt _ _ _ _
  rw [hw1]
  have:=Rt.new (w.alloc (.cells #[.slice a n k,.bool s,.slice b m d,.slice b' m' d',.int .i64 op] 55)) [.slice none 0 0,.bool false,.slice none 0 0,.slice none 0 0,.int .i64 0] 85
  simpa using this
 clear c1 c2 hw1
 go_enter Tryz.func32,Tryz.ntmps32
 go_upto_region 1 with (fail)
 rw [← HW.out]
 clear HW
 have b2:=drew_ext w1
 have XE:=b2
 refine wp_region_noPanic ?_
 refine wp_region_last_drew (st:=6) (S:=fun w'=>w'.cell? ⟨w.heap.size,0,none⟩=some (.slice a n k)∧w'.cell? ⟨w.heap.size,1,none⟩=some (.bool s)∧w'.cell? ⟨w.heap.size,2,none⟩=some (.slice b m d)∧w'.cell? ⟨w.heap.size,3,none⟩=some (.slice b' m' d')∧w'.cell? ⟨w.heap.size,4,none⟩=some (.int .i64 op)) (by kernel_rfl) ((C1.out.ext XE).c5) (fun hHeld=>?_)
 refine tkL 0 hHeld ?_
 simp only [jP,jA,jB,jC,jD,jE,jF]
 refine tkL 1 hHeld ?_
 simp only [jP,jA,jB,jC,jD,jE,jF]
 refine tkL 3 hHeld ?_
 simp only [jP,jA,jB,jC,jD,jE,jF]
 refine tkL 4 hHeld ?_
 simp only [jP,jA,jB,jC,jD,jE,jF]
 refine rdL 2 (by kernel_rfl) rfl (fun K hK=>?_)
 go_simp
 go_at_call 53;refine (HTO.out _ (Ext.trans b1 XE)).mono ?_;rintro e w3 ⟨v3,rfl,b3,o3⟩;have O3:=Lib.hid o3;clear o3;(first | have XE:=Ext.trans XE b3 | have XE:=Ext.trans (Ext.trans XE (Ext.alloc _ _)) b3);obtain ⟨a3,k3,s3,d3,m3,e3,d4,m4,e4,rfl,-,-,O4⟩:=OwnEy.op O3.out
 go_wp2_with fail
 refine hK.out _ _ ((C1.out.ext XE).c5) (fun hHeld=>?_)
 clear hK K
 try simp only [jP,jA,jB,jC,jD,jE,jF]
 refine tkL 5 hHeld ?_
 simp only [jP,jA,jB,jC,jD,jE,jF]
 obtain ⟨_,_,_,_,_,j0,j1,j2,j3,j4,i0,i1,i2,i3,i4⟩:=(R2.out.ext XE).c5
 refine wpAnyL_ready (rs:=[6]) (by kernel_rfl) (by simp) ?_
 refine AllReadyL.last (o:=_) rfl (fun K hK=>?_)
 go_simp
 refine hK.out _ _ ?_
 clear hK K
 try simp only [jP,jA,jB,jC,jD,jE,jF]
 refine wpAnyL_done (by kernel_rfl) ?_ _
 refine NoPanic.normal ?_
 go_wp2_with fail
 refine bodyPost_ret (v:=.agg #[.slice a3 la.length k3,.bool s3,.slice d3 m3 e3,.slice d4 m4 e4,.int .i64 op]) (by simp [results,Tryz.results32,go_sem,j0,j1,j2,j3,j4]) rfl ?_
 exact hR.out _ _ (Gives.mk (put5_below (Ext.trans b1 XE) (by omega) _ _ _ _ _) ⟨_,_,_,_,rfl,O4.out.putT (R2.out.ext XE) (by decide) (by decide) 0 [_,_,_,_,_]⟩)
open Go.RowKit Go.Att

theorem etBt:ElemT Tryz.prog 29 85 (.agg #[.slice none 0 0,.bool false,.slice none 0 0,.slice none 0 0,.int .i64 0]) 5 88:=ElemT.mk' Tryz.underlying29 (by kernel_rfl) rfl (by decide)
set_option maxRecDepth 100000 in
set_option maxHeartbeats 4000000 in
set_option linter.unusedSimpArgs false in
theorem list9_any {w:World} {v:Value} {l:List AT} (hv:RdRow 5 OwnA w v l) (hs:∀ a∈l,Smx a.1.1 a.1.2) (hl:l.length≤1000):
  Calls Tryz.prog 12 #[v] w (Gives w fun v' w'=>OwnRow 5 OwnB9 85 w.heap.size w' v' l):=by
 refine via fun R hR=>?_
 have HS:=Lib.hid hs
 obtain ⟨a,c,rfl,hlc,hcm⟩:=hv.shape
 have HV:=Lib.hid hv
 unfold maxLen at hcm
 clear hv hs
 go_enter Tryz.func12,Tryz.ntmps12
 go_wp2_with fail
 go_loopw [3,9] (fun o i wr=>∃ k:Nat,i=.int .i64 k∧k≤l.length∧Ext w wr∧Hid (OwnRow 5 OwnB9 85 w.heap.size wr o (l.take k))) (fun _ i _=>l.length - (intOf i).toNat)
 case atStart=>exact ⟨0,rfl,Nat.zero_le _,Ext.alloc _ _,by rw [List.take_zero];exact OwnRow.nilLit _ (Nat.le_refl _)⟩
 case round=>
  obtain ⟨k,rfl,hk,hx,hO⟩:=hrel
  by_cases hlt:k < l.length
  ·have hd:decide ((k:Int) < (l.length:Int))=true:=decide_eq_true (by omega)
   obtain ⟨bA,oA,xa,xk,xs,xb,xm,xd,xb',xm',xd',hae,hbo,hax⟩:=HV.out.atm k hlt
   subst hae
   obtain ⟨u0,u1,u2,u3,u4⟩:=(hbo.ext hx).c5
   have hJ1:IntKind.i64.wrap (k:Int)=(k:Int):=by rw [IntKind.wrap_i64];omega
   have hJ2:(0:Int)≤(k:Int)∧(k:Int) < (l.length:Int):=⟨by omega,by omega⟩
   have HTK:Hid (l.take (k+1)=l.take k ++ [l[k]]):=(List.take_append_getElem hlt).symm
   have HKL:Hid ((l.take k).length≤1000):=by show _≤_;rw [List.length_take];omega
   obtain ⟨w4,hw4,b4,c4,-,-⟩:=bx1 wr [.slice xa l[k].1.1.length xk,.bool xs,.slice xb xm xd,.slice xb' xm' xd',.int .i64 l[k].2] 55
   have HW:=Lib.hid hw4
   have C4:=Lib.hid c4
   have HTO:Hid (Calls Tryz.prog 32 #[.agg #[.slice xa l[k].1.1.length xk,.bool xs,.slice xb xm xd,.slice xb' xm' xd',.int .i64 l[k].2]] w4 (Gives w4 fun v' w'=>OwnB9 w' v' l[k])):=told9_any ⟨_,_,_,_,rfl,hax.ext (Ext.trans hx b4)⟩ (HS.out _ (List.getElem_mem hlt))
   clear hw4 c4 hbo hax
   generalize l[k].1.1.length=n1 at*
   generalize l[k].2=o1 at*
   generalize l[k]=q at*
   go_upto_region 5 with (fail)
   rw [← HW.out]
   clear HW u0 u1 u2 u3 u4
   obtain ⟨k0,k1,k2,k3,k4⟩:=C4.out.c5
   go_wp2_with fail
   refine HTO.out.mono ?_
   rintro e w5 ⟨_,rfl,b5,h1⟩
   clear k0 k1 k2 k3 k4
   obtain ⟨a2,kk2,s2,b2,m2,d2,b2',m2',d2',rfl,O1⟩:=h1.op
   have HQ1:=Lib.hid h1
   have b05:=hx.trans (b4.trans b5)
   have hO1:=Lib.hid (hO.out.ext OwnBt.ext (b4.trans b5))
   clear h1 hO
   go_wp2_with (at_builtin;refine append_rowL (y:=q) etBt (kdBt (by decide) (by decide)) (by rfl) _ _ (by rfl) w.heap.size (by rfl) _ (by rfl) hO1.out rfl HQ1.out (Below.size b05) (by have:=HKL.out;omega) (by unfold maxLen;have:=HKL.out;omega) ?_;intro v9 w9 o9 b9 g9)
   go_roundw
   case rel=>exact ⟨k+1,by go_num,by omega,Below.trans b05 b9,by rw [HTK.out];exact o9⟩
   case measure=>simp [intOf] <;> omega
  ·obtain rfl:k=l.length:=by omega
   have hd:decide ((l.length:Int) < (l.length:Int))=false:=decide_eq_false (by omega)
   rw [List.take_length] at hO
   obtain ⟨ao,ko,he,-,-⟩:=hO.out.rd.shape
   subst he
   go_wp2_with fail
   exact hR.out _ _ (Gives.mk hx hO.out)
end Go.Proofs.YthpaifdfafjlcaaGreat
