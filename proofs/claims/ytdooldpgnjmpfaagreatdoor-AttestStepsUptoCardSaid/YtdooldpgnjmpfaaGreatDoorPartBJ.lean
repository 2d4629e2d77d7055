/- A group of texts: PTold17, PRef17, RowOne, PR8Means, PTold8, PLinReps, Fark, PLinEval, PList17 -/
import Derived.Test.YtdooldpgnjmpfaaGreatDoorSq
import Derived.Test.YtdooldpgnjmpfaaGreatDoorPartAC
import Derived.Test.YtdooldpgnjmpfaaGreatDoorPartBI
import Derived.Test.YtdooldpgnjmpfaaGreatDoorPartAD
import Derived.Test.YtdooldpgnjmpfaaGreatDoorPartBG
import Derived.Test.YtdooldpgnjmpfaaGreatDoorPartAG
import Derived.Test.YtdooldpgnjmpfaaGreatDoorPartBE
import Derived.Test.YtdooldpgnjmpfaaGreatDoorPartAH
import Derived.Test.YtdooldpgnjmpfaaGreatDoorPartAI
import Derived.Test.YtdooldpgnjmpfaaGreatDoorPartBD
namespace Go.Proofs.YtdooldpgnjmpfaaGreatDoor
open Go.RowKit Go.Att

theorem Bx.grown {w w':World} {b:Nat} {cs:List Value} (h:Bx w b cs) {o:Option Nat} (hne:o≠some b) (hg:w.grownBy w' o):Bx w' b cs:=fun i v hv=>by
 have h1:=h i v hv
 rw [← h1]
 exact World.cell?_of_block (hg.block b (World.block_lt_of_cell? _ _ h1) (fun e=>hne e.symm))
open Go.RowKit Go.Att

open Go.RowKit Go.Att

theorem RdRow.lit {α:Type} {k:Nat} {T:World→Value→α→Prop} (w:World) (E:List (List Value)) (t:TypeId) {l:List α} (hp:Pw k (fun c a=>T w (.agg c.toArray) a) E l) (hT:∀ {w w' v a},T w v a→Ext w w'→T w' v a) (hl:l.length≤maxLen):
  RdRow k T (w.alloc (.cells E.flatten.toArray t)) (.slice (some ⟨w.heap.size,0,none⟩) l.length l.length) l:=
 ⟨E,by simpa using RdV.lit w E.flatten.toArray t k l.length (by simpa using hp.flat) hl,hp.mono fun _ _ h=>hT h (Ext.alloc _ _)⟩
theorem OwnE.putT {e t:TypeId} {B c m:Nat} {w:World} {v:Value} {a b:Rat} (h:OwnE e B w v a b) (hc:Rt w c m t) (hne:e≠t) (i:Nat) (l:List Value):OwnE e B (Att.putL w c i l) v a b:=by
 obtain ⟨n,d,m,c,rfl,h1,h2,h3,h4⟩:=h
 exact ⟨_,_,_,_,rfl,h1.putT hc hne i l,h2.putT hc hne i l,h3.putT hc hne i l,h4.putT hc hne i l⟩
theorem RdRow.first {α:Type} {k:Nat} {T:World→Value→α→Prop} {w:World} {v:Value} {a:α} (h:RdRow k T w v [a]) (hk:0 < k):
  ∃ (b off c:Nat) (cs:List Value),v=.slice (some ⟨b,off,none⟩) 1 c∧1≤c∧cs.length=k∧T w (.agg cs.toArray) a∧∀ j v,cs[j]?=some v→w.cell? ⟨b,off+j,none⟩=some v:=by
 obtain ⟨a',c,rfl,h1,h2⟩:=h.shape
 obtain ⟨b,off,cs,rfl,h3,h4,h5⟩:=h.at hk 0 (by simp)
 refine ⟨b,off,c,cs,rfl,h1,h3,h4,fun j v hv=>?_⟩
 rw [← hv,← h5 j (by have:=(List.getElem?_eq_some_iff.1 hv).1;omega)]
 simp
open Go.RowKit Go.Att

open Go.RowKit Go.Att

abbrev OwnY (B:Nat) (w:World) (v:Value) (l:TL) (c:Rat):Prop:=OwnEy 4 186 B w v l c
theorem etTp8:ElemT Tryz.prog 108 186 (.agg #[.int .i64 0,.bool false,.slice none 0 0,.slice none 0 0]) 4 64:=ElemT.mk' Tryz.underlying108 (by kernel_rfl) rfl (by decide)
theorem take_snoc8 {l:TL} {j:Nat} (hj:j < l.length):l.take (j+1)=l.take j ++ [gt l j]:=by rw [← List.take_append_getElem hj,gt_lt hj]
set_option linter.unusedSimpArgs false in
set_option maxHeartbeats 4000000 in
set_option maxRecDepth 100000 in
theorem told8_any {w:World} {v:Value} {l:TL} {c:Rat} (hv:RdX w v l c) (hs:∀ t∈l,Sz 1000000 t.2) (hsc:Sz 1000000 c) (hl:l.length≤1000):
  Calls Tryz.prog 75 #[v] w (Gives w fun v' w'=>OwnY w.heap.size w' v' l c):=by
 refine via fun R hR=>?_
 have HS:=Lib.hid hs
 have HSC:=Lib.hid hsc
 obtain ⟨a,k,s,b,m,d,b',m',d',rfl,hlk,hkm,HRW,HRC⟩:=hv.op
 clear hv hs hsc
 obtain ⟨w1,hw1,b1,c2,c3,r2,r3,-⟩:=bx2 w [.slice a l.length k,.bool s,.slice b m d,.slice b' m' d'] [.slice none 0 0,.bool false,.slice none 0 0,.slice none 0 0] 61 110
 have HW:=Lib.hid hw1
 have C2:=Lib.hid c2
 have R2:Hid (Rt w1 (w.heap.size+1) 4 110):=by
  show Rt _ _ _ _
  rw [hw1]
  have:=Rt.new (w.alloc (.cells #[.slice a l.length k,.bool s,.slice b m d,.slice b' m' d'] 61)) [.slice none 0 0,.bool false,.slice none 0 0,.slice none 0 0] 110
  simpa using this
 clear c2 c3 r2 r3 hw1
 go_enter Tryz.func75,Tryz.ntmps75
 go_upto_region 1 with (fail)
 rw [← HW.out]
 clear HW
 obtain ⟨j0,j1,j2,j3⟩:=C2.out.c4
 go_wp2_with fail
 refine (told_any (HRC.out.rd.ext b1) HSC.out).mono ?_
 rintro e w2 ⟨_,rfl,b2,o2⟩
 obtain ⟨s7,a7,l7,c7,a6,l6,c6,rfl,O2⟩:=o2.op
 clear o2 j0 j1 j2 j3
 obtain ⟨w3,hw3,b3,c3,hr3,-⟩:=bx1 w2 [.slice none 0 0,.bool s7,.slice a7 l7 c7,.slice a6 l6 c6] 110
 have HW:=Lib.hid hw3
 have R3:Hid (Rt w3 w2.heap.size 4 110):=by
  show Rt _ _ _ _
  rw [hw3]
  exact Rt.new w2 [.slice none 0 0,.bool s7,.slice a7 l7 c7,.slice a6 l6 c6] 110
 have C3:=Lib.hid c3
 clear hw3 c3 hr3
 go_upto_region 2 with (fail)
 rw [← HW.out]
 clear HW
 obtain ⟨BO,hBO⟩:∃ BO,w2.heap.size=BO:=⟨_,rfl⟩
 have h12:=b2.size
 rw [hBO] at R3 C3 ⊢
 have hBO1:w1.heap.size≤BO:=by omega
 clear hBO h12
 obtain ⟨j0,j1,j2,j3⟩:=(C2.out.ext (Ext.trans b2 b3)).c4
 go_wp2_with fail
 clear j0 j1 j2 j3
 go_loopw [13] (fun t wr=>∃ (j:Nat) (ao:Option Addr) (ko:Nat),t=.int .i64 j∧j≤l.length∧Ext w1 wr∧Hid (Bx wr BO [.slice ao (l.take j).length ko,.bool s7,.slice a7 l7 c7,.slice a6 l6 c6])∧Hid (Rt wr BO 4 110)∧Hid (OwnP 4 0 wr (.agg #[.bool s7,.slice a7 l7 c7,.slice a6 l6 c6]) c)∧Hid (OwnRow 4 (OwnTp 4) 186 w1.heap.size wr (.slice ao (l.take j).length ko) (l.take j))) (fun t _=>l.length - (intOf t).toNat)
 case atStart=>exact ⟨0,none,0,rfl,Nat.zero_le _,Ext.trans b2 b3,by rw [List.take_zero];exact C3.out,R3.out,(O2.out.mono (Nat.zero_le _)).ext b3,by rw [List.take_zero];exact OwnRow.nil _ _ _⟩
 case round=>
  clear O2 C3 R3
  obtain ⟨j,ao,ko,rfl,hj,hx,hC,hRt,hQ,hO⟩:=hrel
  by_cases hjl:j < l.length
  ·have hd:decide ((j:Int) < (l.length:Int))=true:=decide_eq_true (by omega)
   obtain ⟨bT,oT,rfl⟩:=HRW.out.some_at hjl
   obtain ⟨sx,ax,lx,mx,ay,ly,my,hB4,hQT⟩:=HRW.out.tm j hjl
   obtain ⟨u0,u1,u2,u3⟩:=hB4.ext (Ext.trans b1 hx)
   have hJ1:IntKind.i64.wrap (j:Int)=(j:Int):=by rw [IntKind.wrap_i64];omega
   have hJ2:(0:Int)≤(j:Int)∧(j:Int) < (l.length:Int):=⟨by omega,by omega⟩
   have HSN:=Lib.hid (take_snoc8 hjl)
   have HOL:Hid ((l.take j).length=j):=by show _=_;rw [List.length_take];omega
   have HSQ:Hid (Sz 1000000 (gt l j).2):=by show Sz _ _;rw [gt_lt hjl];exact HS.out _ (List.getElem_mem hjl)
   obtain ⟨y,hy⟩:∃ y,(gt l j).1=y:=⟨_,rfl⟩
   obtain ⟨q4,hq4⟩:∃ q4,(gt l j).2=q4:=⟨_,rfl⟩
   have hyq:gt l j=(y,q4):=Prod.ext hy hq4
   rw [hyq] at HSN
   rw [hq4] at HSQ
   rw [hy] at u0
   rw [hq4] at hQT
   have HQT:=Lib.hid (hQT.ext (Ext.trans b1 hx))
   clear hy hq4 hyq hB4 hQT
   obtain ⟨ol,hol⟩:∃ ol,l.take j=ol:=⟨_,rfl⟩
   rw [hol] at hC hO HOL
   try rw [hol] at HSN
   clear hol
   obtain ⟨ol2,hol2⟩:∃ ol2,ol ++ [(y,q4)]=ol2:=⟨_,rfl⟩
   have HS2:=Lib.hid hol2
   rw [hol2] at HSN
   clear hol2
   obtain ⟨w4,hw4,b4,c4,-,-⟩:=bx1 wr [.int .i64 y,.bool sx,.slice ax lx mx,.slice ay ly my] 90
   have HW:=Lib.hid hw4
   have DT:=Lib.hid c4
   clear hw4 c4
   go_upto_region 5 with (fail)
   rw [← HW.out]
   clear HW u0 u1 u2 u3
   have b14:=Ext.trans hx b4
   have DO:=Lib.hid (hC.out.ext b4)
   have hRt4:=Lib.hid (hRt.out.ext b4)
   have HQ4:=Lib.hid (HQT.out.ext b4)
   have hO4:=Lib.hid (hO.out.ext OwnTp.ext b4)
   have hQ4:=Lib.hid (hQ.out.ext b4)
   have neO:=hO.out.ne_rt hRt.out (by decide)
   have neT:=hO.out.ne_new
   have b5:=drew_ext w4
   have XE:=b5
   refine wp_region_noPanic ?_
   refine wp_region_last_drew (st:=11) (S:=fun w'=>(w'.cell? ⟨BO,0,none⟩=some (.slice ao ol.length ko))∧(w'.cell? ⟨wr.heap.size,0,none⟩=some (.int .i64 y)∧w'.cell? ⟨wr.heap.size,1,none⟩=some (.bool sx)∧w'.cell? ⟨wr.heap.size,2,none⟩=some (.slice ax lx mx)∧w'.cell? ⟨wr.heap.size,3,none⟩=some (.slice ay ly my))) (by kernel_rfl) (⟨(DO.out.ext XE).c1,(DT.out.ext XE).c4⟩) (fun hHeld=>?_)
   refine tkL 0 hHeld ?_
   simp only [jP,jA,jB,jC,jD,jE,jF]
   refine tkL 1 hHeld ?_
   simp only [jP,jA,jB,jC,jD,jE,jF]
   refine tkL 2 hHeld ?_
   simp only [jP,jA,jB,jC,jD,jE,jF]
   refine tkL 3 hHeld ?_
   simp only [jP,jA,jB,jC,jD,jE,jF]
   refine tkL 4 hHeld ?_
   simp only [jP,jA,jB,jC,jD,jE,jF]
   refine tkL 5 hHeld ?_
   simp only [jP,jA,jB,jC,jD,jE,jF]
   refine rdL 6 (by kernel_rfl) rfl (fun K hK=>?_)
   go_simp
   go_at_call 28;refine (told_any (HQ4.out.rd.ext XE) HSQ.out).mono ?_;rintro e w6 ⟨v6,rfl,b6,o6⟩;have O6:=Lib.hid o6;clear o6;(first | have XE:=Ext.trans XE b6 | have XE:=Ext.trans (Ext.trans XE (Ext.alloc _ _)) b6);obtain ⟨s6,e6,n6,g6,f6,m6,h6,rfl,P6⟩:=O6.out.op
   go_wp2_with fail
   refine hK.out _ _ (⟨(DO.out.ext XE).c1,(DT.out.ext XE).c4⟩) (fun hHeld=>?_)
   clear hK K
   try simp only [jP,jA,jB,jC,jD,jE,jF]
   refine tkL 7 hHeld ?_
   simp only [jP,jA,jB,jC,jD,jE,jF]
   refine rdL 8 (by kernel_rfl) rfl (fun K hK=>?_)
   go_simp
   refine hK.out _ _ (⟨(DO.out.ext (Ext.trans XE (Ext.alloc _ _))).c1,(DT.out.ext (Ext.trans XE (Ext.alloc _ _))).c4⟩) (fun hHeld=>?_)
   clear hK K
   try simp only [jP,jA,jB,jC,jD,jE,jF]
   refine rdL 9 (by kernel_rfl) rfl (fun K hK=>?_)
   refine if_wantedL rfl ?_
   refine append_row (y:=(y,q4)) etTp8 (kdTP (e:=4) (by decide)) _ _ (by rfl) w1.heap.size (by rfl) _ (by rfl) (hO4.out.ext OwnTp.ext XE) rfl ⟨_,_,_,rfl,P6.out.mono (Nat.zero_le _)⟩ (Below.size (Ext.trans hx (Ext.trans b4 XE))) (by have:=HOL.out;omega) (by have:=HOL.out;unfold maxLen;omega) ?_
   intro v9 w9 o9 b9 g9
   have xA:=Ext.trans XE (Ext.alloc w6 (.cells #[.int .i64 y,.bool s6,.slice e6 n6 g6,.slice f6 m6 h6] 186))
   have RO9:=Lib.hid ((hRt4.out.ext xA).grow g9 neO)
   have DO9:=Lib.hid ((DO.out.ext xA).grow g9 neO)
   obtain ⟨nn,xs,hown⟩:=((hO4.out.ext OwnTp.ext xA)).own
   have HQ9:=Lib.hid (OwnP.grown (hQ4.out.ext xA) hown (by decide) g9)
   have XW:=Below.trans (Ext.trans hx b4) (Below.trans (Below.mono XE (Below.size (Ext.trans hx b4))) b9)
   rw [HS2.out] at o9
   obtain ⟨a11,k11,rfl,-,-⟩:=o9.rd.shape
   refine hK.out _ _ ⟨DO9.out.c1,((DT.out.ext xA).grow g9 neT).c4⟩ (fun hHeld=>?_)
   clear hK K
   try simp only [jP,jA,jB,jC,jD,jE,jF]
   refine tkL 10 hHeld ?_
   simp only [jP,jA,jB,jC,jD,jE,jF]
   obtain ⟨_,_,_,_,n0,n1,n2,n3,i0,i1,i2,i3⟩:=RO9.out.c4
   refine wpAnyL_ready (rs:=[11]) (by kernel_rfl) (by simp) ?_
   refine AllReadyL.last (o:=_) rfl (fun K hK=>?_)
   go_simp
   refine hK.out _ _ ?_
   clear hK K
   try simp only [jP,jA,jB,jC,jD,jE,jF]
   refine wpAnyL_done (by kernel_rfl) ?_ _
   refine NoPanic.normal ?_
   go_wp2_with fail
   go_roundw
   case rel=>exact ⟨j+1,a11,k11,by go_num,by omega,putL_below hBO1 [_] 0 XW,by
    show Hid (Bx _ BO [.slice a11 (l.take (j+1)).length k11,_,_,_])
    rw [HSN.out]
    exact DO9.out.set0 RO9.out (by decide) _,RO9.out.set0 _,HQ9.out.putT RO9.out (by decide) 0 [_],by
    show Hid (OwnRow _ _ _ _ _ (.slice a11 (l.take (j+1)).length k11) (l.take (j+1)))
    rw [HSN.out]
    exact o9.putT RO9.out (by decide) 0 [_] (fun v a h=>h.putT RO9.out (by decide) 0 [_])⟩
   case measure=>simp [intOf] <;> omega
  ·obtain rfl:j=l.length:=by omega
   have hd:decide ((l.length:Int) < (l.length:Int))=false:=decide_eq_false (by omega)
   rw [List.take_length] at hC hO
   obtain ⟨k0,k1,k2,k3⟩:=hC.out.c4
   have RR:=Lib.hid (R2.out.ext hx)
   have h01:w.heap.size≤w1.heap.size:=Below.size b1
   obtain ⟨_,_,_,_,j0,j1,j2,j3,i0,i1,i2,i3⟩:=RR.out.c4
   go_wp2_with fail
   refine bodyPost_ret (v:=.agg #[.slice ao l.length ko,.bool s7,.slice a7 l7 c7,.slice a6 l6 c6]) (by simp [results,Tryz.results75,go_sem,j0,j1,j2,j3]) rfl ?_
   exact hR.out _ _ (Gives.mk (put4_below (Ext.trans b1 hx) (by omega) _ _ _ _ _) (OwnEy.putT ⟨_,_,_,_,rfl,hO.out.mono h01,hQ.out⟩ RR.out (by decide) (by decide) 0 [_,_,_,_]))
open Go.RowKit Go.Att

def Rep (w:World) (v:Value) (F:Int→Rat) (c:Rat):Prop:=∃ l,FormT l∧(∀ x,cf l x=F x)∧Okx 380 l c∧RdX w v l c
def RepY (w:World) (v:Value) (F:Int→Rat) (c:Rat):Prop:=∃ l,FormT l∧(∀ x,cf l x=F x)∧Okx 380 l c∧RdY w v l c
theorem Rep.ext {w w':World} {v:Value} {F:Int→Rat} {c:Rat} (h:Rep w v F c) (x:Ext w w'):Rep w' v F c:=by
 obtain ⟨l,h1,h2,h3,h4⟩:=h
 exact ⟨l,h1,h2,h3,h4.ext x⟩
theorem RepY.ext {w w':World} {v:Value} {F:Int→Rat} {c:Rat} (h:RepY w v F c) (x:Ext w w'):RepY w' v F c:=by
 obtain ⟨l,h1,h2,h3,h4⟩:=h
 exact ⟨l,h1,h2,h3,h4.ext x⟩
def Smx (l:TL) (c:Rat):Prop:=l.length≤12∧(∀ t∈l,Sz 8 t.2)∧Sz 8 c
theorem Smx.cf {l:TL} {c:Rat} (h:Smx l c) (x:Int):Sz 109 (cf l x):=(cf_sz h.2.1 x).le (by have:=h.1;omega)
theorem tL_sm {w:World} {v:Value} {l:List (Int × NN)} {n:NN} (hv:RdNE w v l n):Smx (tL l) (qN n):=⟨tL_len l,(tL_sz hv).1,(tL_sz hv).2⟩
theorem expr8_sm {w:World} {v:Value} {l:List (Int × NN)} {n:NN} (hv:RdNE w v l n) (hs:∀ t∈l,Nlt 1000000000 t.2) (hn:Nlt 1000000000 n):
  Calls Tryz.prog 32 #[v] w (Gives w fun v' w'=>OwnX 0 w' v' (tL l) (qN n)):=
 (expr8_any hv hs hn).mono fun _ _ ⟨v,e,b,o⟩=>⟨v,e,b,o.mono (Nat.zero_le _)⟩
open Go.RowKit Go.Att

abbrev AZ:=AT × Rat
def fcf:List AZ→Int→Rat
 | [],_=>0
 | z :: l,x=>z.2*cf z.1.1.1 x+fcf l x
def fct:List AZ→Rat
 | []=>0
 | z :: l=>z.2*z.1.1.2+fct l
def fst':List AZ→Bool
 | []=>false
 | z :: l=>(z.1.2 == 2 && decide (0 < z.2.num.sign)) || fst' l
def fbad (z:AZ):Bool:=!(decide (1≤z.1.2∧z.1.2≤3)) || (z.1.2 != 3 && decide (z.2.num.sign < 0))
theorem fcf_app (l m:List AZ) (x:Int):fcf (l ++ m) x=fcf l x+fcf m x:=by
 induction l with
 | nil=>show fcf m x=0+_;rw [Rat.zero_add]
 | cons t l ih=>show _+fcf (l ++ m) x=(_+_)+_;rw [ih,Rat.add_assoc]
theorem fct_app (l m:List AZ):fct (l ++ m)=fct l+fct m:=by
 induction l with
 | nil=>show fct m=0+_;rw [Rat.zero_add]
 | cons t l ih=>show _+fct (l ++ m)=(_+_)+_;rw [ih,Rat.add_assoc]
theorem fst_app (l m:List AZ):fst' (l ++ m)=(fst' l || fst' m):=by
 induction l with
 | nil=>show fst' m=(false || _);rw [Bool.false_or]
 | cons t l ih=>show (_ || fst' (l ++ m))=((_ || _) || _);rw [ih,Bool.or_assoc]
theorem fcf_one (z:AZ) (x:Int):fcf [z] x=z.2*cf z.1.1.1 x:=by show _+0=_;rw [Rat.add_zero]
theorem fct_one (z:AZ):fct [z]=z.2*z.1.1.2:=by show _+0=_;rw [Rat.add_zero]
theorem fst_one (z:AZ):fst' [z]=(z.1.2 == 2 && decide (0 < z.2.num.sign)):=by show (_ || false)=_;rw [Bool.or_false]
theorem fcf_sz {l:List AZ} (h:∀ z∈l,Smx z.1.1.1 z.1.1.2∧Sz 20 z.2) (x:Int):Sz (l.length*130+1) (fcf l x):=by
 induction l with
 | nil=>exact Sz.zero
 | cons z l ih=>
  have h1:=h z List.mem_cons_self
  refine ((h1.2.mul (h1.1.cf x)).add (ih fun y hy=>h y (List.mem_cons_of_mem _ hy))).le ?_
  simp only [List.length_cons]
  omega
theorem fct_sz {l:List AZ} (h:∀ z∈l,Smx z.1.1.1 z.1.1.2∧Sz 20 z.2):Sz (l.length*30+1) (fct l):=by
 induction l with
 | nil=>exact Sz.zero
 | cons z l ih=>
  have h1:=h z List.mem_cons_self
  refine ((h1.2.mul h1.1.2.2).add (ih fun y hy=>h y (List.mem_cons_of_mem _ hy))).le ?_
  simp only [List.length_cons]
  omega
theorem zip_snoc {L:List AT} {P:List Rat} {j:Nat} (h1:j < L.length) (h2:j < P.length):(L.zip P).take (j+1)=(L.zip P).take j ++ [(L[j],gt P j)]:=by
 have h3:j < (L.zip P).length:=by rw [List.length_zip];omega
 rw [← List.take_append_getElem h3,List.getElem_zip,gt_lt h2]
theorem zip_in {L:List AT} {P:List Rat} (hL:∀ a∈L,Smx a.1.1 a.1.2) (hP:∀ p∈P,Sz 20 p) (j:Nat):∀ z∈(L.zip P).take j,Smx z.1.1.1 z.1.1.2∧Sz 20 z.2:=fun z hz=>by
 have h:=List.mem_of_mem_take hz
 exact ⟨hL _ (List.of_mem_zip h).1,hP _ (List.of_mem_zip h).2⟩
structure TzP (L:List AT) (P:List Rat):Prop where
 sm:∀ a∈L,Smx a.1.1 a.1.2
 sp:∀ p∈P,Sz 100 p
 sf:∀ j x,Sz 1301 (fcf ((L.zip P).take j) x)
 sc:∀ j,Sz 1301 (fct ((L.zip P).take j))
theorem TzP.of {L:List AT} {P:List Rat} (hL:∀ a∈L,Smx a.1.1 a.1.2) (hP:∀ p∈P,Sz 20 p) (hn:L.length≤10):TzP L P:=by
 have hl:∀ j,((L.zip P).take j).length≤10:=fun j=>by rw [List.length_take,List.length_zip];omega
 exact ⟨hL,fun p hp=>(hP p hp).le (by decide),fun j x=>(fcf_sz (zip_in hL hP j) x).le (by have:=hl j;omega),fun j=>(fct_sz (zip_in hL hP j)).le (by have:=hl j;omega)⟩
def SumR (L:List AT) (P:List Rat) (w:World) (u:Value) (sb:Bool) (e:Int):Prop:=
 if L.length≠P.length then OwnX 0 w u [] 0∧sb=false∧e=1
 else if (L.zip P).any fbad=true then OwnX 0 w u [] 0∧sb=false∧e=4
 else ∃ l,FormT l∧(∀ x,cf l x=fcf (L.zip P) x)∧l.length≤120∧sb=fst' (L.zip P)∧e=0∧OwnX 0 w u l (fct (L.zip P))
theorem ownx_nil (w:World):OwnX 0 w (.agg #[.slice none 0 0,.bool false,.slice none 0 0,.slice none 0 0]) [] 0:=⟨_,_,_,_,rfl,OwnRow.nil _ _ _,ownq_nil _ _⟩
open Go.RowKit Go.Att

set_option linter.unusedSimpArgs false in
set_option maxHeartbeats 4000000 in
set_option maxRecDepth 100000 in
theorem leval_any {w:World} {v vp:Value} {l:TL} {c:Rat} {P:List Rat} (L M:Nat) (hv:RdX w v l c) (hp:RdRow 3 (OwnQp 119) w vp P) (hs:∀ t∈l,Sz L t.2) (hsc:Sz L c) (hP:∀ p∈P,Sz M p) (hl:l.length≤1000) (hL:L+M≤5000):
  Calls Tryz.prog 61 #[v,vp] w (Gives w fun v' w'=>OwnQ 119 0 w' v' (c+tv P l)):=by
 refine via fun R hR=>?_
 have HS:=Lib.hid hs
 have HSP:Hid (∀ t∈l,0≤t.1→t.1 < P.length→Sz M (gt P t.1.toNat)):=fun t _ h1 h2=>hP _ (gt_mem' (by omega))
 have hbig:l.length*(L+M+2)+L≤10000000:=by
  have:=Nat.mul_le_mul hl (show L+M+2≤5002 by omega)
  omega
 have HSZ:Hid (∀ j,j≤l.length→Sz 10000000 (c+tv P (l.take j))):=fun j hj=>(tv_sz c hsc hs hP j hj).le (by
  have:=Nat.mul_le_mul_right (L+M+2) hj
  omega)
 obtain ⟨a,k,s,b,m,d,b',m',d',rfl,hlk,hkm,HRW,HRC⟩:=hv.op
 obtain ⟨ap,kp,rfl,hpk,hpm⟩:=hp.shape
 have HP:=Lib.hid hp
 clear hv hs hsc hP hp
 obtain ⟨w1,hw1,b1,c1,c2,r1,r2,z1⟩:=bx2 w [.slice a l.length k,.bool s,.slice b m d,.slice b' m' d'] [.bool false,.slice none 0 0,.slice none 0 0] 61 59
 have HW:=Lib.hid hw1
 have C1:=Lib.hid c1
 have R2:Hid (Rt w1 (w.heap.size+1) 3 59):=by
  show Rt _ _ _ _
  rw [hw1]
  have:=Rt.new (w.alloc (.cells #[.slice a l.length k,.bool s,.slice b m d,.slice b' m' d'] 61)) [.bool false,.slice none 0 0,.slice none 0 0] 59
  simpa using this
 clear c1 c2 r1 r2 hw1 z1
 go_enter Tryz.func61,Tryz.ntmps61
 go_upto_region 1 with (fail)
 rw [← HW.out]
 clear HW
 obtain ⟨w2,hw2,b2,hC2,-⟩:∃ W,W=w1.alloc (.cells #[.bool s,.slice b m d,.slice b' m' d'] 59)∧Ext w1 W∧Bq 119 59 W w1.heap.size c∧W.heap.size=w1.heap.size+1:=⟨_,rfl,Ext.alloc _ _,Bq.new ((HRC.out).ext b1),by simp⟩
 have HW:=Lib.hid hw2
 clear hw2
 obtain ⟨k0,k1,k2,k3⟩:=C1.out.c4
 go_upto_region 2 with (fail)
 rw [← HW.out]
 clear HW k0 k1 k2 k3
 have k0:=(C1.out.ext b2).c1
 go_wp2_with fail
 clear k0
 go_loopw [13] (fun t wr=>∃ j:Nat,t=.int .i64 j∧j≤l.length∧Ext w1 wr∧Hid (Bq 119 59 wr w1.heap.size (c+tv P (l.take j)))) (fun t _=>l.length - (intOf t).toNat)
 case atStart=>exact ⟨0,rfl,Nat.zero_le _,b2,by
  rw [List.take_zero]
  show Hid (Bq _ _ _ _ (c+0))
  rw [Rat.add_zero]
  exact hC2⟩
 case round=>
  clear hC2
  obtain ⟨j,rfl,hj,hx,hC⟩:=hrel
  by_cases hjl:j < l.length
  ·have hd:decide ((j:Int) < (l.length:Int))=true:=decide_eq_true (by omega)
   obtain ⟨bT,oT,rfl⟩:=HRW.out.some_at hjl
   obtain ⟨sx,ax,lx,mx,ay,ly,my,hB4,hQ4⟩:=HRW.out.tm j hjl
   obtain ⟨u0,u1,u2,u3⟩:=hB4.ext (Ext.trans b1 hx)
   have hJ1:IntKind.i64.wrap (j:Int)=(j:Int):=by rw [IntKind.wrap_i64];omega
   have hJ2:(0:Int)≤(j:Int)∧(j:Int) < (l.length:Int):=⟨by omega,by omega⟩
   have HSN:=Lib.hid (tv_snoc P hjl)
   have HZJ:=Lib.hid (HSZ.out j hj)
   have HSQ:Hid (Sz L (gt l j).2∧(0≤(gt l j).1→(gt l j).1 < P.length→Sz M (gt P (gt l j).1.toNat))):=by
    show _∧_
    rw [gt_lt hjl]
    exact ⟨HS.out _ (List.getElem_mem hjl),HSP.out _ (List.getElem_mem hjl)⟩
   obtain ⟨y,hy⟩:∃ y,(gt l j).1=y:=⟨_,rfl⟩
   obtain ⟨q4,hq4⟩:∃ q4,(gt l j).2=q4:=⟨_,rfl⟩
   have HTM:Hid (tmv P (gt l j)=if 0≤y∧y < P.length then q4*gt P y.toNat else 0):=by
    show _=_
    rw [← hy,← hq4];rfl
   rw [hy,hq4] at HSQ
   rw [HTM.out] at HSN
   rw [hy] at u0
   rw [hq4] at hQ4
   have HQ4:=Lib.hid (hQ4.ext (Ext.trans b1 hx))
   clear hy hq4 hB4 hQ4 HTM
   obtain ⟨w4,hw4,b4,c4,-,-⟩:=bx1 wr [.int .i64 y,.bool sx,.slice ax lx mx,.slice ay ly my] 90
   have HW:=Lib.hid hw4
   have C4:=Lib.hid c4
   clear hw4 c4
   go_upto_region 5 with (fail)
   rw [← HW.out]
   clear HW u0 u1 u2 u3
   obtain ⟨u0,u1,u2,u3⟩:=C4.out.c4
   have hC4:=Lib.hid (hC.out.ext b4)
   have b04:=Ext.trans b1 (Ext.trans hx b4)
   clear hC
   generalize tv P (l.take j)=tj at*
   by_cases hy0:0≤y
   ·have hdy:decide (0≤y)=true:=decide_eq_true hy0
    by_cases hyP:y < P.length
    ·have hdp:decide (y < (P.length:Int))=true:=decide_eq_true hyP
     obtain ⟨i,rfl⟩:∃ i:Nat,y=i:=⟨y.toNat,by omega⟩
     have hiP:i < P.length:=by omega
     rw [if_pos ⟨hy0,hyP⟩,Int.toNat_natCast] at HSN
     have HSM:=Lib.hid (HSQ.out.2 hy0 hyP)
     rw [Int.toNat_natCast] at HSM
     obtain ⟨bP,oP,sp,xp,kp',mp,yp,k2',m2',hae,hbo,hqp⟩:=HP.out.oq i hiP
     subst hae
     have hI1:IntKind.i64.wrap (i:Int)=(i:Int):=by rw [IntKind.wrap_i64];unfold maxLen at hpm;omega
     have hI2:(0:Int)≤(i:Int)∧(i:Int) < (P.length:Int):=⟨by omega,by omega⟩
     have CP:=Lib.hid (hbo.ext b04)
     have HQP:=Lib.hid (hqp.ext b04)
     generalize gt P i=pv at*
     clear hbo hqp
     go_upto_region 6 with (fail)
     obtain ⟨s0,e1,n1,g1,e2,n2,g2,T1,T2,T3⟩:=hC4.out.op
     clear u0 u1 u2 u3
     have b5:=drew_ext w4
     have XE:=b5
     refine wp_region_noPanic ?_
     refine wp_region_last_drew (st:=10) (S:=fun w'=>(w'.cell? ⟨w1.heap.size,0,none⟩=some (.bool s0)∧w'.cell? ⟨w1.heap.size,1,none⟩=some (.slice e1 n1 g1)∧w'.cell? ⟨w1.heap.size,2,none⟩=some (.slice e2 n2 g2))∧(w'.cell? ⟨wr.heap.size,0,none⟩=some (.int .i64 i)∧w'.cell? ⟨wr.heap.size,1,none⟩=some (.bool sx)∧w'.cell? ⟨wr.heap.size,2,none⟩=some (.slice ax lx mx)∧w'.cell? ⟨wr.heap.size,3,none⟩=some (.slice ay ly my))∧(w'.cell? ⟨bP,oP+i*3,none⟩=some (.bool sp)∧w'.cell? ⟨bP,oP+i*3+1,none⟩=some (.slice xp kp' mp)∧w'.cell? ⟨bP,oP+i*3+2,none⟩=some (.slice yp k2' m2'))) (by kernel_rfl) (⟨(T1.out.ext XE).c3,(C4.out.ext XE).c4,(CP.out.ext XE).c3⟩) (fun hHeld=>?_)
     refine tkL 0 hHeld ?_
     simp only [jP,jA,jB,jC,jD,jE,jF]
     refine tkL 1 hHeld ?_
     simp only [jP,jA,jB,jC,jD,jE,jF]
     refine tkL 2 hHeld ?_
     simp only [jP,jA,jB,jC,jD,jE,jF]
     refine tkL 3 hHeld ?_
     simp only [jP,jA,jB,jC,jD,jE,jF]
     refine tkL 4 hHeld ?_
     simp only [jP,jA,jB,jC,jD,jE,jF]
     refine tkL 5 hHeld ?_
     simp only [jP,jA,jB,jC,jD,jE,jF]
     refine tkL 6 hHeld ?_
     simp only [jP,jA,jB,jC,jD,jE,jF]
     refine tkL 7 hHeld ?_
     simp only [jP,jA,jB,jC,jD,jE,jF]
     refine rdL 8 (by kernel_rfl) rfl (fun K hK=>?_)
     go_simp
     go_at_call 89;refine (rmul_any ((HQ4.out.ext b4).rd.ext XE) (HQP.out.rd.ext XE) (HSQ.out.1.le (by omega)) (HSM.out.le (by omega))).mono ?_;rintro e w6 ⟨v6,rfl,b6,o6⟩;have O6:=Lib.hid o6;clear o6;(first | have XE:=Ext.trans XE b6 | have XE:=Ext.trans (Ext.trans XE (Ext.alloc _ _)) b6)
     go_wp2_with fail
     refine hK.out _ _ (⟨(T1.out.ext XE).c3,(C4.out.ext XE).c4,(CP.out.ext XE).c3⟩) (fun hHeld=>?_)
     clear hK K
     try simp only [jP,jA,jB,jC,jD,jE,jF]
     refine rdL 9 (by kernel_rfl) rfl (fun K hK=>?_)
     go_simp
     go_at_call 87;refine (radd_any (T3.out.rd.ext XE) O6.out.rd HZJ.out ((HSQ.out.1.mul HSM.out).le (by omega))).mono ?_;rintro e w7 ⟨v7,rfl,b7,o7⟩;have O7:=Lib.hid o7;clear o7;(first | have XE:=Ext.trans XE b7 | have XE:=Ext.trans (Ext.trans XE (Ext.alloc _ _)) b7);obtain ⟨_,_,_,_,_,_,_,rfl,P7⟩:=O7.out.op
     go_wp2_with fail
     refine hK.out _ _ (⟨(T1.out.ext XE).c3,(C4.out.ext XE).c4,(CP.out.ext XE).c3⟩) (fun hHeld=>?_)
     clear hK K
     try simp only [jP,jA,jB,jC,jD,jE,jF]
     obtain ⟨_,_,_,j0,j1,j2,i0,i1,i2⟩:=(T2.out.ext XE).rm.c3
     refine wpAnyL_ready (rs:=[10]) (by kernel_rfl) (by simp) ?_
     refine AllReadyL.last (o:=_) rfl (fun K hK=>?_)
     go_simp
     refine hK.out _ _ ?_
     clear hK K
     try simp only [jP,jA,jB,jC,jD,jE,jF]
     refine wpAnyL_done (by kernel_rfl) ?_ _
     refine NoPanic.normal ?_
     go_wp2_with fail
     go_roundw
     case rel=>exact ⟨j+1,by go_num,by omega,put3_below (Ext.trans hx (Ext.trans b4 XE)) (Nat.le_refl _) _ _ _,by
      rw [HSN.out,← Rat.add_assoc]
      exact Bq.set (T2.out.ext XE) (by decide) (P7.out.mono (Nat.zero_le _))⟩
     case measure=>simp [intOf] <;> omega
    ·have hdp:decide (y < (P.length:Int))=false:=decide_eq_false hyP
     rw [if_neg (fun h=>hyP h.2),Rat.add_zero] at HSN
     go_wp2_with fail
     go_roundw
     case rel=>exact ⟨j+1,by go_num,by omega,Ext.trans hx b4,by rw [HSN.out];exact hC4.out⟩
     case measure=>simp [intOf] <;> omega
   ·have hdy:decide (0≤y)=false:=decide_eq_false hy0
    rw [if_neg (fun h=>hy0 h.1),Rat.add_zero] at HSN
    go_wp2_with fail
    go_roundw
    case rel=>exact ⟨j+1,by go_num,by omega,Ext.trans hx b4,by rw [HSN.out];exact hC4.out⟩
    case measure=>simp [intOf] <;> omega
  ·obtain rfl:j=l.length:=by omega
   have hd:decide ((l.length:Int) < (l.length:Int))=false:=decide_eq_false (by omega)
   rw [List.take_length] at hC
   obtain ⟨s0,e1,n1,g1,e2,n2,g2,T1,T2,T3⟩:=hC.out.op
   obtain ⟨k0,k1,k2⟩:=T1.out.c3
   have RR:=Lib.hid (R2.out.ext hx)
   obtain ⟨_,_,_,j0,j1,j2,i0,i1,i2⟩:=RR.out.rm.c3
   go_wp2_with fail
   refine bodyPost_ret (v:=.agg #[.bool s0,.slice e1 n1 g1,.slice e2 n2 g2]) (by simp [results,Tryz.results61,go_sem,j0,j1,j2]) rfl ?_
   exact hR.out _ _ (Gives.mk (put3_below (Ext.trans b1 hx) (Nat.le_succ _) _ _ _) (T3.out.putT RR.out (by decide) 0 [_,_,_]))
open Go.RowKit Go.Att

theorem etRats:ElemT Tryz.prog 40 59 (.agg #[.bool false,.slice none 0 0,.slice none 0 0]) 3 56:=ElemT.mk' Tryz.underlying40 (by kernel_rfl) rfl (by decide)
theorem take_map_snoc {α β:Type} (f:α→β) {l:List α} {k:Nat} (h:k < l.length):(l.take (k+1)).map f=(l.take k).map f ++ [f l[k]]:=by
 rw [← List.take_append_getElem h,List.map_append];rfl
end Go.Proofs.YtdooldpgnjmpfaaGreatDoor
