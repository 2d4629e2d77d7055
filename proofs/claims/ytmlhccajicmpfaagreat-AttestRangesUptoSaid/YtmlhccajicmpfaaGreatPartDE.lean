/- A group of texts: PBases, Flat, PConcat, PMoved -/
import Derived.Test.YtmlhccajicmpfaaGreatSq
import Derived.Test.YtmlhccajicmpfaaGreatPartDC
import Derived.Test.YtmlhccajicmpfaaGreatPartDD
import Derived.Test.YtmlhccajicmpfaaGreatPartCF
import Derived.Test.YtmlhccajicmpfaaGreatPartBH
import Derived.Test.YtmlhccajicmpfaaGreatPartCI
import Derived.Lib.AppendZeros
import Derived.Test.YtmlhccajicmpfaaGreatPartBC
import Derived.Test.YtmlhccajicmpfaaGreatPartCG
set_option maxHeartbeats 40000000
set_option maxRecDepth 100000
set_option linter.unusedSimpArgs false
namespace Go.Att
open Go.RowKit
theorem Bx.c7 {w:World} {b:Nat} {x0 x1 x2 x3 x4 x5 x6:Value} {l:List Value} (h:Bx w b (x0 :: x1 :: x2 :: x3 :: x4 :: x5 :: x6 :: l)):w.cell? ⟨b,0,none⟩=some x0∧w.cell? ⟨b,1,none⟩=some x1∧w.cell? ⟨b,2,none⟩=some x2∧w.cell? ⟨b,3,none⟩=some x3∧w.cell? ⟨b,4,none⟩=some x4∧w.cell? ⟨b,5,none⟩=some x5∧w.cell? ⟨b,6,none⟩=some x6:=
 ⟨h 0 _ rfl,h 1 _ rfl,h 2 _ rfl,h 3 _ rfl,h 4 _ rfl,h 5 _ rfl,h 6 _ rfl⟩
theorem RdQy.op2 {ν σ α:Type} {N:World→Value→ν→Prop} {S:World→Value→σ→Prop} {A:World→Value→α→Prop} {w:World} {v:Value} {q:Nt ν × Pr σ α} (h:RdQy N S A w v q):∃ a0 c0 a c a' c' x k,v=.agg #[.int .i64 q.1.1,.slice a0 q.1.2.length c0,.slice a q.2.1.length c,.slice a' q.2.2.1.length c',.int .i64 q.2.2.2.k,.int .i64 q.2.2.2.a,.slice x q.2.2.2.sub.length k]∧
  RdNet N w (.agg #[.int .i64 q.1.1,.slice a0 q.1.2.length c0]) q.1∧RdPr S A w (.agg #[.slice a q.2.1.length c,.slice a' q.2.2.1.length c',.int .i64 q.2.2.2.k,.int .i64 q.2.2.2.a,.slice x q.2.2.2.sub.length k]) q.2:=by
 obtain ⟨a0,c0,a,c,a',c',x,k,rfl,h1,h2,h3,h4⟩:=h.op
 exact ⟨a0,c0,a,c,a',c',x,k,rfl,h1,⟨_,_,_,_,_,rfl,h2,h3,h4⟩⟩
theorem RdQy.ext {ν σ α:Type} {N:World→Value→ν→Prop} {S:World→Value→σ→Prop} {A:World→Value→α→Prop} {w w':World} {v:Value} {q:Nt ν × Pr σ α} (h:RdQy N S A w v q) (hN:∀ {w w' v a},N w v a→Ext w w'→N w' v a) (hS:∀ {w w' v a},S w v a→Ext w w'→S w' v a) (hA:∀ {w w' v a},A w v a→Ext w w'→A w' v a) (x:Ext w w'):RdQy N S A w' v q:=by
 obtain ⟨s,b0,b1,b2,b3,b4,rfl,h1,h2⟩:=h
 exact ⟨s,b0,b1,b2,b3,b4,rfl,h1.ext hN x,h2.ext hS hA x⟩
end Go.Att
namespace Go.Proofs.YtmlhccajicmpfaaGreat
open Go.RowKit Go.Att

abbrev QyP (w:World) (v:Value) (q:Nt Rat × Pr (Rat × Rat) AT):Prop:=RdQy QnN SnD OwnA w v q
theorem qyp_ext {w w':World} {v:Value} {q:Nt Rat × Pr (Rat × Rat) AT} (h:QyP w v q) (x:Ext w w'):QyP w' v q:=RdQy.ext h qnn_ext snd_ext OwnAt.ext x
def QyOk (q:Nt Rat × Pr (Rat × Rat) AT):Prop:=lit q.1∧0 < wds q.1.2 q.1.1∧PrOk q.2 q.1.1 (wds q.1.2 q.1.1)∧(∀ s∈q.2.1,Sz 10000000 s.1∧Sz 10000000 s.2)∧∀ a∈q.2.2.1,a.1.1.length≤100000
theorem wlL_get {ν:Type} {ls:List (Lay ν)} {z:Int} {n i:Nat} (h:i < (wlL ls z n).length):(wlL ls z n)[i]=wds (ls.take i) z:=by
 have h2:(wlL ls z n)[i]?=some (wds (ls.take i) z):=by
  rw [show wlL ls z n=(List.range (n+1)).map fun k=>wds (ls.take k) z from rfl,List.getElem?_map,List.getElem?_range (by rw [wlL_len] at h;exact h)]
  rfl
 obtain ⟨_,h3⟩:=List.getElem?_eq_some_iff.1 h2
 exact h3
theorem echeck_ok {w:World} {v:Value} {q:Nt Rat × Pr (Rat × Rat) AT} (hv:QyP w v q) (hq:QyOk q):
  Calls Tryz.prog 48 #[v] w (Gives w fun v' _=>v'=.int .i64 0):=by
 refine via fun R hR=>?_
 obtain ⟨a0,c0,a,c,a',c',x,k,rfl,hN,hP⟩:=hv.op2
 obtain ⟨hl,hw,hpr,hs,ht⟩:=hq
 obtain ⟨w1,hw1,b1,c1,-,-⟩:=bx1 w [.int .i64 q.1.1,.slice a0 q.1.2.length c0,.slice a q.2.1.length c,.slice a' q.2.2.1.length c',.int .i64 q.2.2.2.k,.int .i64 q.2.2.2.a,.slice x q.2.2.2.sub.length k] 53
 have HW:=qH hw1
 have C1:=qH c1
 have HWD:=qH (widthsL_any (hN.ext qnn_ext b1) hl)
 rw [if_pos hw] at HWD
 have HPC:Hid (∀ w',Ext w w'→Calls Tryz.prog 77 #[.agg #[.slice a q.2.1.length c,.slice a' q.2.2.1.length c',.int .i64 q.2.2.2.k,.int .i64 q.2.2.2.a,.slice x q.2.2.2.sub.length k],.int .i64 q.1.1,.int .i64 (wds q.1.2 q.1.1)] w' (Gives w' fun v' _=>v'=.int .i64 0)):=fun w' xx=>pcheck_ok (hP.ext snd_ext OwnAt.ext xx) hpr hs ht
 have HK3:Hid (q.1.2.length≤3):=hl.2.1
 have HWP:=qH hw
 obtain ⟨j0,j1,j2,j3,j4,j5,j6⟩:=c1.c7
 clear hw1 c1 hv hN hP hl hw hpr hs ht
 obtain ⟨⟨z,ls⟩,bx,ats,fm⟩:=q
 dsimp only at*
 generalize bx.length=nb at*
 generalize ats.length=na at*
 generalize fm.k=fk at*
 generalize fm.a=fa at*
 generalize fm.sub.length=fn at*
 go_enter Tryz.func48,Tryz.ntmps48
 go_upto_region 1 with (fail)
 rw [← HW.out]
 clear HW
 go_wp2_with fail
 refine HWD.out.mono ?_
 rintro e w2 ⟨_,rfl,b2,aw,mw,cw,rfl,hO,-⟩
 have hO:=hO HWP.out
 obtain ⟨aw',kw,he,-,-⟩:=hO.rd.shape
 simp only [Value.slice.injEq] at he
 obtain ⟨rfl,hm,rfl⟩:=he
 rw [wlL_len] at hm
 subst hm
 obtain ⟨bW,oW,rfl,e0⟩:=IntT.row hO.rd 0 (by rw [wlL_len];omega)
 obtain ⟨bW',oW',he,e1⟩:=IntT.row hO.rd ls.length (by rw [wlL_len];omega)
 simp only [Option.some.injEq,Addr.mk.injEq,and_true] at he
 obtain ⟨rfl,rfl⟩:=he
 rw [wlL_get,List.take_zero,wds,Nat.add_zero] at e0
 rw [wlL_get,List.take_length] at e1
 have CA:Hid (Bo w2 bW oW [.int .i64 z]):=Bo.one e0
 have CB:Hid (Bo w2 bW (oW+ls.length) [.int .i64 (wds ls z)]):=Bo.one e1
 have C2:=qH (C1.out.ext b2)
 have X2:=qH (eT b1 b2)
 have hk1:IntKind.i64.wrap ((ls.length:Int)+1 - 1)=(ls.length:Int):=by have:=HK3.out;rw [IntKind.wrap_i64];omega
 have hk2:IntKind.i64.wrap (ls.length:Int)=(ls.length:Int):=by have:=HK3.out;rw [IntKind.wrap_i64];omega
 have hi0:(0:Int)≤0∧(0:Int) < (ls.length:Int)+1:=⟨by omega,by omega⟩
 have hi1:(0:Int)≤(ls.length:Int)∧(ls.length:Int) < (ls.length:Int)+1:=⟨by omega,by omega⟩
 generalize wds ls z=oz at*
 generalize ls.length=nl at*
 clear hO e0 e1 HWD HWP j0 j1 j2 j3 j4 j5 j6
 go_upto_region 4 with (fail)
 have b3:=drew_ext w2
 have XE:=b3
 refine wp_region_noPanic ?_
 refine wp_region_held_drew (S:=fun w'=>(w'.cell? ⟨w.heap.size,0,none⟩=some (.int .i64 z)∧w'.cell? ⟨w.heap.size,1,none⟩=some (.slice a0 nl c0)∧w'.cell? ⟨w.heap.size,2,none⟩=some (.slice a nb c)∧w'.cell? ⟨w.heap.size,3,none⟩=some (.slice a' na c')∧w'.cell? ⟨w.heap.size,4,none⟩=some (.int .i64 fk)∧w'.cell? ⟨w.heap.size,5,none⟩=some (.int .i64 fa)∧w'.cell? ⟨w.heap.size,6,none⟩=some (.slice x fn k))∧(w'.cell? ⟨bW,oW,none⟩=some (.int .i64 z))∧(w'.cell? ⟨bW,oW+nl,none⟩=some (.int .i64 oz))) kR (⟨(C2.out.ext XE).c7,(CA.out.ext XE).c1,(CB.out.ext XE).c1⟩) (fun hHeld=>?_)
 refine tkH 0 hHeld ?_
 simp only [jP,jJ]
 refine tkH 1 hHeld ?_
 simp only [jP,jJ]
 refine tkH 2 hHeld ?_
 simp only [jP,jJ]
 refine tkH 3 hHeld ?_
 simp only [jP,jJ]
 refine tkH 4 hHeld ?_
 simp only [jP,jJ]
 refine tkH 5 hHeld ?_
 simp only [jP,jJ]
 refine tkH 6 hHeld ?_
 simp only [jP,jJ]
 refine tkH 7 hHeld ?_
 simp only [jP,jJ]
 refine tkH 8 hHeld ?_
 simp only [jP,jJ]
 refine tkH 9 hHeld ?_
 simp only [jP,jJ]
 refine tkH 10 hHeld ?_
 simp only [jP,jJ]
 refine rdH 11 kR rfl (fun K hK=>?_)
 go_simp
 go_at_call 77;refine (HPC.out _ (eT X2.out XE)).mono ?_;rintro e w4 ⟨_,rfl,b4,rfl⟩;(first | have XE:=eT XE b4 | have XE:=eT (eT XE (Ext.alloc _ _)) b4)
 go_wp2_with fail
 refine hK.out _ _ (⟨(C2.out.ext XE).c7,(CA.out.ext XE).c1,(CB.out.ext XE).c1⟩) (fun hHeld=>?_)
 clear hK K
 try simp only [jP,jJ]
 refine tkH 12 hHeld ?_
 simp only [jP,jJ]
 refine dnH kR ?_
 go_wp2_with fail
 exact hR.out _ _ (Gives.mk (eT X2.out XE) rfl)
noncomputable def bsN {ν:Type} (ls:List (Lay ν)) (z:Int):Nat→Int
 | 0=>0
 | k+1=>bsN ls z k+wds (ls.take k) z
noncomputable def bsL {ν:Type} (ls:List (Lay ν)) (z:Int) (m:Nat):List Int:=(List.range (m+1)).map (bsN ls z)
theorem bsL_len {ν:Type} {ls:List (Lay ν)} {z:Int} {i:Nat}:(bsL ls z i).length=i+1:=by
 unfold bsL
 rw [List.length_map,List.length_range]
theorem bsL_succ {ν:Type} {ls:List (Lay ν)} {z:Int} {i:Nat}:bsL ls z (i+1)=bsL ls z i ++ [bsN ls z i+wds (ls.take i) z]:=by
 unfold bsL
 rw [List.range_succ,List.map_append]
 rfl
theorem bsL_get {ν:Type} {ls:List (Lay ν)} {z:Int} {n i:Nat} (h:i < (bsL ls z n).length):(bsL ls z n)[i]=bsN ls z i:=by
 have h2:(bsL ls z n)[i]?=some (bsN ls z i):=by
  rw [show bsL ls z n=(List.range (n+1)).map (bsN ls z) from rfl,List.getElem?_map,List.getElem?_range (by rw [bsL_len] at h;exact h)]
  rfl
 obtain ⟨_,h3⟩:=List.getElem?_eq_some_iff.1 h2
 exact h3
theorem bsN_bd {ν:Type} {ls:List (Lay ν)} {w:Int} (h:0 < wds ls w) (hw:w≤4) (hl:∀ l∈ls,litL l):∀ i,i≤ls.length+1→0≤bsN ls w i∧bsN ls w i≤4*i
 | 0,_=>⟨Int.le_refl _,Int.le_refl _⟩
 | i+1,hi=>by
  have h1:=bsN_bd h hw hl i oM
  have h2:=wds_le h hw hl i oM
  have h3:=wds_pos h i oM
  unfold bsN
  omega
theorem bases_ok {w:World} {v:Value} {q:Nt Rat × Pr (Rat × Rat) AT} (hv:QyP w v q) (hq:QyOk q):
  Calls Tryz.prog 17 #[v] w (Gives w fun v' w'=>∃ o,v'=.tuple #[o,.int .i64 0]∧OwnRow 1 IntT 3 w.heap.size w' o (bsL q.1.2 q.1.1 (q.1.2.length+1))):=by
 refine via fun R hR=>?_
 obtain ⟨a0,c0,a,c,a',c',x,k,rfl,hN,hP⟩:=hv.op2
 have HQ:=qH hq
 obtain ⟨w1,hw1,b1,c1,-,-⟩:=bx1 w [.int .i64 q.1.1,.slice a0 q.1.2.length c0,.slice a q.2.1.length c,.slice a' q.2.2.1.length c',.int .i64 q.2.2.2.k,.int .i64 q.2.2.2.a,.slice x q.2.2.2.sub.length k] 53
 have HW:=qH hw1
 have C1:=qH c1
 have HEC:=qH (echeck_ok (qyp_ext hv b1) hq)
 have HWD:Hid (∀ w',Ext w w'→Calls Tryz.prog 36 #[.agg #[.int .i64 q.1.1,.slice a0 q.1.2.length c0]] w' (Gives w' fun v' w''=>∃ a m c,v'=.tuple #[.slice a m c,.int .i64 0]∧OwnRow 1 IntT 3 0 w'' (.slice a m c) (wlL q.1.2 q.1.1 q.1.2.length))):=fun w' xx=>
  (widthsL_any (hN.ext qnn_ext xx) hq.1).mono fun _ _ ⟨v,e,b,a,m,c,h1,h2,_⟩=>⟨v,e,b,a,m,c,by rw [if_pos hq.2.1] at h1;exact h1,h2 hq.2.1⟩
 have HK3:Hid (q.1.2.length≤3):=hq.1.2.1
 have HBN:Hid (∀ i,i≤q.1.2.length+1→0≤bsN q.1.2 q.1.1 i∧bsN q.1.2 q.1.1 i≤4*i):=bsN_bd hq.2.1 hq.1.1 hq.1.2.2
 have HWB:Hid (∀ i,i≤q.1.2.length→wds (q.1.2.take i) q.1.1≤4∧0 < wds (q.1.2.take i) q.1.1):=fun i hi=>⟨wds_le hq.2.1 hq.1.1 hq.1.2.2 i hi,wds_pos hq.2.1 i hi⟩
 obtain ⟨j0,j1,j2,j3,j4,j5,j6⟩:=c1.c7
 clear hw1 c1 hv hN hP hq HQ
 obtain ⟨⟨z,ls⟩,bx,ats,fm⟩:=q
 dsimp only at*
 generalize bx.length=nb at*
 generalize ats.length=na at*
 generalize fm.k=fk at*
 generalize fm.a=fa at*
 generalize fm.sub.length=fn at*
 go_enter Tryz.func17,Tryz.ntmps17
 go_upto_region 1 with (fail)
 rw [← HW.out]
 clear HW
 go_wp2_with fail
 refine HEC.out.mono ?_
 rintro e w2 ⟨_,rfl,b2,rfl⟩
 have HWD2:=qH (HWD.out _ (eT b1 b2))
 clear j0 j1 j2 j3 j4 j5 j6
 obtain ⟨j0,j1,j2,j3,j4,j5,j6⟩:=(C1.out.ext b2).c7
 go_wp2_with fail
 refine HWD2.out.mono ?_
 rintro e w3 ⟨_,rfl,b3,aw,mw,cw,rfl,hO⟩
 have HO:=qH hO
 obtain ⟨aw',kw,he,-,-⟩:=hO.rd.shape
 simp only [Value.slice.injEq] at he
 obtain ⟨rfl,hm,rfl⟩:=he
 rw [wlL_len] at hm
 have HM:=qH hm
 have X3:=qH (eT b1 (eT b2 b3))
 clear hO hm HWD HWD2 HEC j0 j1 j2 j3 j4 j5 j6
 go_wp2_with (refine build1W etLi rF rF (T:=IntT) IntT.ext rF [.int .i64 0] (fill_i1 ..) rfl dC (y:=(0:Int)) rfl ?_;intro g8 w4 x4 h8 l8;have L8:Hid (OwnRow 1 IntT 3 w3.heap.size w4 (.slice (some ⟨g8,0,none⟩) 1 1) (bsL ls z 0)):=l8.at_block h8;have X4:=qH x4;clear l8)
 have HM4:Hid (mw≤4):=by have:=HM.out;have:=HK3.out;exact qH oM
 go_loopw [7,24] (fun q t wr=>∃ (i n2:Nat) (ab:Option Addr) (cb:Nat),t=.int .i64 i∧q=.slice ab n2 cb∧i≤mw∧Hid (n2=i+1)∧Hid (Ext w3 wr)∧Hid (OwnRow 1 IntT 3 w3.heap.size wr (.slice ab n2 cb) (bsL ls z i))) (fun _ t _=>mw - (intOf t).toNat)
 case atStart=>exact ⟨0,1,_,_,rfl,rfl,Nat.zero_le _,rfl,X4.out,L8.out⟩
 case round=>
  clear L8 h8 x4
  obtain ⟨i,n2,ab,cb,rfl,rfl,hi,hn2,hX,hO⟩:=hrel
  obtain ⟨wo,hwo⟩:∃ w0:World,w0=wr:=⟨_,rfl⟩
  subst hwo
  by_cases him:i < mw
  ·have hd:=dT ((i:Int) < (mw:Int))
   have hI2:(0:Int)≤(i:Int)∧(i:Int) < (mw:Int):=⟨by omega,by omega⟩
   have hI3:(0:Int)≤(i:Int)∧(i:Int) < (n2:Int):=⟨by omega,by have:=hn2.out;omega⟩
   have hI1:IntKind.i64.wrap ((i:Int)+1)=((i+1:Nat):Int):=by have:=HM4.out;rw [IntKind.wrap_i64];omega
   have hI4:IntKind.i64.wrap ((n2:Int) - 1)=(i:Int):=by have:=HM4.out;have:=hn2.out;rw [IntKind.wrap_i64];omega
   have hil:i≤ls.length:=by have:=HM.out;omega
   obtain ⟨bW,oW,hwe,e0⟩:=IntT.row (HO.out.rd.ext IntT.ext hX.out) i (by rw [wlL_len];omega)
   subst hwe
   rw [wlL_get] at e0
   obtain ⟨bB,oB,hbe,e1⟩:=IntT.row hO.out.rd i (by rw [bsL_len];omega)
   subst hbe
   rw [bsL_get] at e1
   have hb1:=HBN.out i oM
   have hb2:=HWB.out i hil
   have hsum:IntKind.i64.wrap (bsN ls z i+wds (ls.take i) z)=bsN ls z i+wds (ls.take i) z:=by have:=HM4.out;rw [IntKind.wrap_i64];omega
   have HSU:=qH (bsL_succ (ls:=ls) (z:=z) (i:=i))
   obtain ⟨nx,hnx⟩:∃ nx,bsN ls z i+wds (ls.take i) z=nx:=⟨_,rfl⟩
   rw [hnx] at HSU
   have hsum2:IntKind.i64.wrap (bsN ls z i+wds (ls.take i) z)=nx:=hsum.trans hnx
   have HLB:Hid ((bsL ls z i).length=i+1):=bsL_len
   have HLB2:Hid ((bsL ls z (i+1)).length=i+1+1):=bsL_len
   have HIM:Hid (i < 4):=by have:=HM4.out;exact qH oM
   obtain ⟨n3,hn3⟩:∃ n3,i+1+1=n3:=⟨_,rfl⟩
   have HN3:Hid (n3=i+1+1):=hn3.symm
   rw [hn3] at HLB2
   clear hsum hb1 hb2 hnx hn3
   generalize bsN ls z i=z1 at*
   generalize wds (ls.take i) z=z2 at*
   go_wp2_with (refine build1W etLi rF rF (T:=IntT) IntT.ext rF [.int .i64 nx] (fill_i1 ..) rfl dC (y:=nx) rfl ?_;intro g8 w8 x8 _ l8;refine append_rowGL etLi (kdI _) rF _ _ rF w3.heap.size rF (hO.out.ext IntT.ext x8) rF l8.rd (by rw [HLB.out];have:=HIM.out;omega) (by rw [HLB.out];unfold maxLen;have:=HIM.out;omega) (Below.size (eT hX.out x8)) ?_;intro v9 w9 o9 b9 g9 _;have O9:Hid (OwnRow 1 IntT 3 w3.heap.size w9 v9 (bsL ls z (i+1))):=(by rw [HSU.out];exact o9);have XW:=qH (Below.trans (eT hX.out x8) b9);obtain ⟨a11,k11,he9,-,-⟩:=O9.out.rd.shape;rw [HLB2.out] at he9;subst he9)
   go_roundw
   case rel=>exact ⟨i+1,n3,a11,k11,by go_num,rfl,by omega,HN3.out,XW.out,O9.out⟩
   simp [intOf]<;>omega
  obtain rfl:i=mw:=by omega
  have hd:=dF ((i:Int) < (i:Int))
  go_wp2_with fail
  exact hR.out _ _ (Gives.mk (eT X3.out hX.out) ⟨_,rfl,by have h:=hO.out;rw [HM.out] at h;exact h.mono (Below.size X3.out)⟩)
end Go.Proofs.YtmlhccajicmpfaaGreat

namespace Go.Att

def fromL {α:Type} (L:List (List α)) (i:Nat):Nat:=((L.take i).map List.length).sum
theorem fromL_zero {α:Type} {L:List (List α)}:fromL L 0=0:=by
 unfold fromL
 rw [List.take_zero]
 rfl
theorem fromL_succ {α:Type} {L:List (List α)} {i:Nat} (h:i < L.length):fromL L (i+1)=fromL L i+L[i].length:=by
 unfold fromL
 rw [← List.take_append_getElem h,List.map_append,List.sum_append]
 simp
theorem fromL_all {α:Type} (L:List (List α)):fromL L L.length=L.flatten.length:=by
 unfold fromL
 rw [List.take_length,List.length_flatten]
theorem fromL_mono {α:Type} {L:List (List α)} {i:Nat}:∀ {j:Nat},i≤j→j≤L.length→fromL L i≤fromL L j
 | 0,h,_=>by
  have:i=0:=by omega
  rw [this]
  exact Nat.le_refl _
 | j+1,h,hj=>by
  rcases Nat.lt_or_ge j i with h1 | h1
  ·have:i=j+1:=by omega
   rw [this]
   exact Nat.le_refl _
  rw [fromL_succ oM]
  exact Nat.le_trans (fromL_mono h1 oM) (Nat.le_add_right _ _)
open Go.RowKit
theorem append_zerosL {P:Program} {w:World} {ops:Array Oper} {rest:List Oper} {o:Oper} {a:Act} {Q:Exit→Act→World→Prop} {t tn e:TypeId} {z:Value} {size bytes:Nat} (ET:ElemT P t e z size bytes) {kn:IntKind} (htn:P.underlying tn=some (.int kn))
  (hgd:Region.wanted o (yielded ops a.tmps)=true) (s x:Operand) (ho:o.op=.call { callee:=.builtin .append,args:=#[s,x],argTypes:=#[t,tn] }) {n:Nat} (hs:a.eval s=.slice none 0 0) (hx:a.eval x=.int kn n) (h0:0 < n) (hb:n*bytes≤281474976710656) (hm:n≤maxLen)
  (h:∀ (c:Nat) (w':World),n≤c→w'.ownsRow w.heap.size e size (.slice (some ⟨w.heap.size,0,none⟩) 0 c) 0 []→Ext w w'→wpList P ops Q rest (a.put o.dst (.slice (some ⟨w.heap.size,0,none⟩) n c)) w'):wpList P ops Q (o :: rest) a w:=by
 obtain ⟨i,hi,hz,hsz,hby⟩:=ET.inf
 have hc:=ET.cells
 have hp:=ET.pos
 refine wpList_want hgd fun K hK=>?_
 have hge:=grownCap_ge w n 0 e
 refine Lib.wp_append_run w s x t tn ho _ _ hs hx _ _ (Lib.run_append_nil_zeros w t tn o.type e i z kn kn ET.und htn hi hz n h0 (by rw [hsz];exact hp) (by unfold maxLen at hm;omega) (by rw [hby];exact hb)) (hK _ _ (h _ _ hge ?_ ?_))
 ·exact World.ownsRow_made w.drew _ _ (Nat.le_refl _) (grownCap_le_maxLen w n 0 e hm) (by rw [Array.size_append,size_zeroCells,size_zeroCells,hc,← Nat.add_mul];congr 1;omega)
 exact (Below.trans (drew_ext w) (Ext.alloc w.drew _))
theorem Pw.firstN {α:Type} {k:Nat} {R:List Value→α→Prop}:∀ {E:List (List Value)} {l:List α} (m:Nat),Pw k R E l→Pw k R (E.take m) (l.take m)
 | _,_,0,_=>trivial
 | [],[],_+1,_=>trivial
 | _ :: E,_ :: l,m+1,h=>⟨h.1,Pw.firstN (E:=E) (l:=l) m h.2⟩
 | [],_ :: _,_,h=>h.elim
 | _ :: _,[],_,h=>h.elim
theorem flat_firstN {k:Nat}:∀ {E:List (List Value)} (m:Nat),(∀ c∈E,c.length=k)→(E.take m).flatten=E.flatten.take (m*k)
 | E,0,_=>by rw [Nat.zero_mul];simp
 | [],m+1,_=>by simp
 | c :: E,m+1,h=>by
  have h1:=h c List.mem_cons_self
  rw [List.take_succ_cons,List.flatten_cons,flat_firstN m fun d hd=>h d (List.mem_cons_of_mem _ hd),List.flatten_cons,Nat.succ_mul,List.take_append,h1,Nat.add_sub_cancel]
  congr 1
  exact (List.take_of_length_le oM).symm
theorem RdRow.firstN {α:Type} {k:Nat} {T:World→Value→α→Prop} {w:World} {a:Option Addr} {n c:Nat} {l:List α} (h:RdRow k T w (.slice a n c) l) {m:Nat} (hm:m≤n):RdRow k T w (.slice a m c) (l.take m):=by
 obtain ⟨E,⟨h0,a',c',hv,h1,h2,h3,h5⟩,hp⟩:=h
 simp only [Value.slice.injEq] at hv
 obtain ⟨rfl,rfl,rfl⟩:=hv
 have hf:=flat_firstN m hp.all
 have hl:(l.take m).length=m:=by rw [List.length_take];omega
 refine ⟨E.take m,?_,hp.firstN m⟩
 rw [hf]
 have hmk:m*k≤l.length*k:=Nat.mul_le_mul_right k hm
 refine ⟨by rw [List.length_take,hl,h0];omega,_,_,by rw [hl],by rw [hl];omega,h2,h3,fun i hi=>?_⟩
 rw [List.length_take] at hi
 obtain ⟨b,off,ha,hc⟩:=h5 i oM
 exact ⟨b,off,ha,by rw [List.getElem?_take,if_pos oM];exact hc⟩
end Go.Att
namespace Go.Proofs.YtmlhccajicmpfaaGreat
open Go.RowKit Go.Att
theorem grow_any {w:World} {n:Nat} (h0:0 < n) (hn:n≤1000):
  Calls Tryz.prog 67 #[.slice none 0 0,.int .i64 n] w (Gives w fun v' w'=>∃ a c,v'=.slice a 0 c∧OwnRow 3 QnN 38 w.heap.size w' v' []):=by
 refine via fun R hR=>?_
 have hb:=dF ((n:Int) < 0)
 have hg:=dT (0 < (n:Int))
 have hw:IntKind.i64.wrap (n:Int)=n:=by rw [IntKind.wrap_i64];omega
 have hd:=dT ((n:Int) > 0)
 go_enter Tryz.func67,Tryz.ntmps67
 go_wp2_with (at_builtin;(refine append_zerosL etRats (kn:=.i64) (tn:=3) kR rF _ _ rF rF rF h0 oM (by unfold maxLen;omega) ?_);intro c9 w9 hc9 o9 b9)
 exact hR.out _ _ (Gives.mk b9 ⟨_,_,rfl,[],o9,trivial⟩)
theorem concat_any {w:World} {v:Value} {L:List (List Rat)} (h:RdRow 1 QnW w v L) (hL:L.length≤100) (h0:0 < L.flatten.length) (hn:L.flatten.length≤1000):
  Calls Tryz.prog 43 #[v] w (Gives w fun v' w'=>OwnRow 3 QnN 38 w.heap.size w' v' L.flatten):=by
 refine via fun R hR=>?_
 obtain ⟨a,c,rfl,hlc,hcm⟩:=h.shape
 have HV:=qH h
 have HL:=qH hL
 have HF:Hid (∀ i,i≤L.length→fromL L i≤1000):=fun i hi=>by
  have h1:=fromL_mono hi (Nat.le_refl L.length)
  rw [fromL_all] at h1
  show _≤_
  omega
 have H0:=qH h0
 have HN:=qH hn
 clear h hL h0 hn hlc hcm
 go_enter Tryz.func43,Tryz.ntmps43
 go_wp2_with fail
 go_loop [3,11] (fun s t=>∃ i:Nat,t=.int .i64 i∧i≤L.length∧s=.int .i64 (fromL L i:Nat)) (fun _ t=>L.length - (intOf t).toNat)
 case atStart=>exact ⟨0,rfl,Nat.zero_le _,by rw [fromL_zero];rfl⟩
 case round=>
  obtain ⟨i,rfl,hi,rfl⟩:=hrel
  by_cases hlt:i < L.length
  ·have hd:=dT ((i:Int) < (L.length:Int))
   have HJ1:IntKind.i64.wrap ((i:Int)+1)=((i+1:Nat):Int):=by have:=HL.out;rw [IntKind.wrap_i64];omega
   have HJ2:(0:Int)≤(i:Int)∧(i:Int) < (L.length:Int):=⟨by omega,by omega⟩
   obtain ⟨bT,oT,p0,q0,haT,CT0,HR0⟩:=HV.out.rowOf i hlt rfl
   subst haT
   have HS:Hid (fromL L (i+1)=fromL L i+L[i].length):=fromL_succ hlt
   have hb1:=HF.out (i+1) oM
   have hb0:=HF.out i oM
   rw [HS.out] at hb1
   generalize fromL L i=s at*
   obtain ⟨s',hs'⟩:∃ s',fromL L (i+1)=s':=⟨_,rfl⟩
   have HS':=qH hs'
   rw [hs'] at HS
   clear hs'
   clear HR0
   generalize L[i].length=m at*
   have h1:IntKind.i64.wrap ((s:Int)+(m:Int))=(s':Int):=by rw [HS.out,IntKind.wrap_i64];omega
   have h2:=dF ((s':Int) < 0)
   have j0:=CT0.out.c1
   clear HS hb1 hb0
   go_wp2_with fail
   go_round
   case rel=>exact ⟨i+1,rfl,by omega,by rw [HS'.out]⟩
   simp [intOf]<;>omega
  obtain rfl:i=L.length:=by omega
  have hd:=dF ((L.length:Int) < (L.length:Int))
  rw [fromL_all]
  generalize L.flatten.length=n at*
  have HG:=qH (grow_any (w:=w) H0.out HN.out)
  go_wp2_with fail
  refine HG.out.mono ?_
  rintro e w1 ⟨_,rfl,b1,ag,cg,rfl,o1⟩
  have HO1:=qH o1
  have B1:=qH b1
  clear o1 b1 HG
  go_wp2_with fail
  go_loopw [6,27] (fun r t wr=>∃ (i:Nat) (ar:Option Addr) (cr:Nat) (l:List Rat),t=.int .i64 i∧i≤L.length∧l=(L.take i).flatten∧r=.slice ar l.length cr∧Hid (Below w.heap.size w wr)∧Hid (OwnRow 3 QnN 38 w.heap.size wr (.slice ar l.length cr) l)) (fun _ t _=>L.length - (intOf t).toNat)
  case atStart=>exact ⟨0,ag,cg,[],rfl,Nat.zero_le _,rfl,rfl,B1,HO1⟩
  case round=>
   clear HO1 B1
   obtain ⟨i,ar,cr,l,rfl,hi,hl,rfl,hB,hO⟩:=hrel
   obtain ⟨wo,hwo⟩:∃ w0:World,w0=wr:=⟨_,rfl⟩
   subst hwo
   have HLE:=qH hl
   clear hl
   by_cases hlt:i < L.length
   ·have hd:=dT ((i:Int) < (L.length:Int))
    have HJ1:IntKind.i64.wrap ((i:Int)+1)=((i+1:Nat):Int):=by have:=HL.out;rw [IntKind.wrap_i64];omega
    have HJ2:(0:Int)≤(i:Int)∧(i:Int) < (L.length:Int):=⟨by omega,by omega⟩
    have X1:=qH (Below.mono hB.out (Nat.le_refl _))
    obtain ⟨bT,oT,p0,q0,haT,CT0,HR0⟩:=(HV.out.ext qnw_ext X1.out).rowOf i hlt rfl
    subst haT
    have HR:=qH HR0.rd
    have HS:Hid (l ++ L[i]=(L.take (i+1)).flatten):=by
     show _=_
     rw [HLE.out,← List.take_append_getElem hlt,List.flatten_append]
     simp
    have HB:Hid (l.length+L[i].length≤1000):=by
     have h1:=HF.out (i+1) oM
     unfold fromL at h1
     rw [← List.length_flatten,← HS.out,List.length_append] at h1
     exact h1
    have hsz:w.heap.size≤wo.heap.size:=Below.size hB.out
    obtain ⟨y,hy⟩:∃ y,L[i]=y:=⟨_,rfl⟩
    rw [hy] at HR HS HB CT0
    clear HR0 hy
    have j0:=CT0.out.c1
    go_wp2_with (at_builtin;refine append_rowAL etRats (kdQn dC) rF _ _ rF w.heap.size rF hO.out rF HR.out (by have:=HB.out;omega) (by have:=HB.out;unfold maxLen;omega) hsz ?_;intro v9 w9 o9 b9 g9;have O9:=qH o9;obtain ⟨a11,k11,he9,-,-⟩:=O9.out.rd.shape;subst he9;clear o9)
    go_roundw
    case rel=>exact ⟨i+1,a11,k11,_,rfl,by omega,HS.out,by rw [List.length_append],Below.trans hB.out b9,O9.out⟩
    simp [intOf]<;>omega
   obtain rfl:i=L.length:=by omega
   have hd:=dF ((L.length:Int) < (L.length:Int))
   rw [List.take_length] at HLE
   have HO2:Hid (OwnRow 3 QnN 38 w.heap.size wo (.slice ar l.length cr) L.flatten):=by rw [← HLE.out];exact hO
   go_wp2_with fail
   exact hR.out _ _ (Gives.mk hB.out HO2.out)
theorem cloneB_any {w:World} {v:Value} {l:List Bool} (h:RdRow 1 BoolT w v l) (hn:l.length≤100000):
  Calls Tryz.prog 47 #[v] w (Gives w fun v' _=>∃ a m c,v'=.slice a m c):=by
 refine via fun R hR=>?_
 have hnil:∀ (w:World) (a:Option Addr) (n c:Nat),(binOp .eql 82 (.slice a n c) (.slice none 0 0)).run Tryz.prog w=.ok (.bool a.isNone) w:=fun w a n c=>Lib.run_eql_slice_nil w 82 4 a n c 0 0 kR
 have HV:=qH h
 obtain ⟨a,c,rfl,h1,h2⟩:=h.shape
 cases a with
 | none=>
  clear h h1 h2
  generalize l.length=n at*
  go_enter Tryz.func47,Tryz.ntmps47
  go_wp2_with fail
  exact hR.out _ _ (Gives.mk (Ext.refl _) ⟨_,_,_,rfl⟩)
 | some ad=>
  clear h h1 h2
  go_enter Tryz.func47,Tryz.ntmps47
  go_wp2_with (at_builtin;refine append_rowAL (l:=[]) (m:=l) etB (kdBo _) rF _ _ rF w.heap.size rF (OwnRow.nilLit _ (Nat.le_refl _)) rF (HV.out.ext BoolT.ext (Ext.alloc _ _)) (by simp;omega) (by unfold maxLen;simp;omega) (by simp) ?_;intro v9 w9 o9 b9 g9;obtain ⟨a11,k11,he9,-,-⟩:=o9.rd.shape;subst he9)
  exact hR.out _ _ (Gives.mk (Below.trans (Ext.alloc _ _) b9) ⟨_,_,_,rfl⟩)
end Go.Proofs.YtmlhccajicmpfaaGreat

namespace Go.Att
open Go.RowKit
theorem OwnRow.keepO {α:Type} {k B:Nat} {T:World→Value→α→Prop} {e:TypeId} {w w':World} {v:Value} {l:List α} (h:OwnRow k T e B w v l) (hk:∀ g,v.ownBlock=some g→w'.heap[g]?=w.heap[g]?) (hT:∀ v a,T w v a→T w' v a):OwnRow k T e B w' v l:=by
 obtain ⟨E,⟨h1,h2⟩,hP⟩:=h
 refine ⟨E,⟨h1,?_⟩,hP.mono fun _ _ h=>hT _ _ h⟩
 rcases h2 with h2 | ⟨g,cap,cur,hv,hg,hh,r⟩
 ·exact .inl h2
 exact .inr ⟨g,cap,cur,hv,hg,by rw [hk g (by rw [hv];rfl)];exact hh,r⟩
theorem fill_t1 (x0 x1 x2 x3:Value):
  Instr.fill (fun i=>some (i*4,4)) ((Array.range (1*4)).map ((Value.agg #[.int .i64 0,.bool false,.slice none 0 0,.slice none 0 0]).cells[· % (Value.agg #[.int .i64 0,.bool false,.slice none 0 0,.slice none 0 0]).cells.size]!)) [(0,.agg #[x0,x1,x2,x3])]=some #[x0,x1,x2,x3]:=by kernel_rfl
end Go.Att
namespace Go.Proofs.YtmlhccajicmpfaaGreat
open Go.RowKit Go.Att

theorem moved_any {w:World} {v:Value} {l:TL} {c:Rat} {i o:Int} (L:Nat) (hv:RdX w v l c) (hs:∀ t∈l,Sz L t.2) (hl:l.length≤1000) (hL:L≤5000):
  Calls Tryz.prog 69 #[v,.int .i64 i,.int .i64 o] w (Gives w fun v' w'=>∃ l':TL,(∀ t∈l',Sz (l.length*(L+1)+1) t.2)∧l'.length≤l.length∧OwnX w.heap.size w' v' l' c):=by
 refine via fun R hR=>?_
 obtain ⟨a,k,sc,ca,cl,ck,ca',cl',ck',rfl,hlk,hkm,HRW,HRC⟩:=hv.op
 have HS:=qH hs
 have HLN:Hid (l.length≤1000∧L≤5000):=⟨hl,hL⟩
 obtain ⟨w1,hw1,b1,c1,-,-,-,hs1⟩:=bx2 w [.slice a l.length k,.bool sc,.slice ca cl ck,.slice ca' cl' ck'] [.slice none 0 0,.bool false,.slice none 0 0,.slice none 0 0] 142 142
 have HW:=qH hw1
 have C1:=qH c1
 have HS1:=qH hs1
 have R1:Hid (Rt w1 (w.heap.size+1) 4 142):=by
  show Rt _ _ _ _
  rw [hw1]
  have:=Rt.new (w.alloc (.cells #[.slice a l.length k,.bool sc,.slice ca cl ck,.slice ca' cl' ck'] 142)) [.slice none 0 0,.bool false,.slice none 0 0,.slice none 0 0] 142
  simpa using this
 obtain ⟨j0,j1,j2,j3⟩:=c1.c4
 clear hw1 c1 hs1 hv hs hl hL hlk hkm
 go_enter Tryz.func69,Tryz.ntmps69
 go_upto_region 1 with (fail)
 rw [← HW.out]
 clear HW
 go_cut [7] (fun s7 wx=>∃ E:Nat,s7=.pointer (some ⟨E,0,none⟩)∧w1.heap.size≤E∧Ext w1 wx∧Hid (Bx wx E [.slice none 0 0,.bool sc,.slice ca cl ck,.slice ca' cl' ck'])∧Hid (Rt wx E 4 142))
 case first=>
  go_wp2_with fail
  go_meet
  exact ⟨_,rfl,Nat.le_refl _,Ext.alloc _ _,Bx.new w1 [_,_,_,_] _,Rt.new w1 [_,_,_,_] _⟩
 case rest=>
  obtain ⟨E,rfl,hE1,hX2,hC2,hR2⟩:=hcut
  obtain ⟨w2,hw2⟩:∃ w0:World,w0=wc:=⟨_,rfl⟩
  subst hw2
  have HE1:=qH hE1
  clear hE1 j0 j1 j2 j3
  obtain ⟨j0,j1,j2,j3⟩:=(C1.out.ext hX2).c4
  go_wp2_with fail
  clear j0 j1 j2 j3
  have HLL1:=qH HLN.out.1
  go_loopw [16] (fun t wr=>∃ (j:Nat) (ao:Option Addr) (ko:Nat) (ml:TL),t=.int .i64 j∧j≤l.length∧Hid (Ext w1 wr)∧Hid (Bx wr E [.slice ao j ko,.bool sc,.slice ca cl ck,.slice ca' cl' ck'])∧Hid (Rt wr E 4 142)∧Hid (OwnQ 156 0 wr (.agg #[.bool sc,.slice ca cl ck,.slice ca' cl' ck']) c)∧Hid (OwnRow 4 (OwnTm 156) 224 w1.heap.size wr (.slice ao j ko) ml)∧Hid (ml.length=j∧∀ t∈ml,Sz L t.2)) (fun t _=>l.length - (intOf t).toNat)
  case atStart=>exact ⟨0,none,0,[],rfl,Nat.zero_le _,hX2,hC2,hR2,HRC.out.ext (eT b1 hX2),OwnRow.nil _ _ _,rfl,fun t ht=>by cases ht⟩
  case round=>
   clear hC2 hR2 hX2
   obtain ⟨j,ao,ko,ml,rfl,hj,hX,hC,hRt,hQ,hO,hml⟩:=hrel
   obtain ⟨wo,hwo⟩:∃ w0:World,w0=wr:=⟨_,rfl⟩
   subst hwo
   by_cases hjl:j < l.length
   ·have hd:=dT ((j:Int) < (l.length:Int))
    have HJ1:IntKind.i64.wrap ((j:Int)+1)=((j+1:Nat):Int):=by have:=HLN.out;rw [IntKind.wrap_i64];omega
    have HJ2:(0:Int)≤(j:Int)∧(j:Int) < (l.length:Int):=⟨by omega,by omega⟩
    have HLL:Hid (j < 1000):=by have:=HLN.out;exact qH oM
    obtain ⟨bT,oT,hae⟩:=(HRW.out.ext OwnTm.ext (eT b1 hX.out)).some_at hjl
    subst hae
    obtain ⟨s,x,k0,m0,x',k',m',⟨u0,u1,u2,u3⟩,hq⟩:=(HRW.out.ext OwnTm.ext (eT b1 hX.out)).tm j hjl
    have HSQ:Hid (Sz L (gt l j).2):=HS.out _ (by rw [gt_lt hjl];exact List.getElem_mem hjl)
    obtain ⟨w4,hw4,b4,c4,-,-⟩:=bx1 wo [.int .i64 (gt l j).1,.bool s,.slice x k0 m0,.slice x' k' m'] 224
    have HW:=qH hw4
    have C4:=qH c4
    have R4:Hid (Rt w4 wo.heap.size 4 224):=by show Rt _ _ _ _;rw [hw4];exact Rt.new wo [_,_,_,_] _
    have HQV4:=qH (hq.ext b4)
    have X4:=qH (eT hX.out b4)
    have HC4:=qH (hC.out.ext b4)
    have HR4:=qH (hRt.out.ext b4)
    have HQ4:=qH (hQ.out.ext b4)
    have HO4:=qH (hO.out.ext OwnTm.ext b4)
    have SZE:Hid (E < wo.heap.size):=hRt.out.lt
    have SZ4:Hid (w1.heap.size≤wo.heap.size):=Below.size hX.out
    have HOL:Hid (∀ g,(Value.slice ao j ko).ownBlock=some g→g < wo.heap.size):=fun g hg=>(OwnRow.lt hO.out g hg).2
    generalize (gt l j).2=qv at*
    generalize (gt l j).1=u at*
    clear hw4 c4 hq
    go_upto_region 5 with (fail)
    rw [← HW.out]
    clear HW u0 u1 u2 u3
    by_cases hge:u ≥ i
    ·have hd2:decide (u ≥ i)=true:=decide_eq_true hge
     have hd2':decide (i≤u)=true:=decide_eq_true hge
     obtain ⟨t1,ht1⟩:∃ t1,IntKind.i64.wrap (o - i)=t1:=⟨_,rfl⟩
     obtain ⟨t2,ht2⟩:∃ t2,IntKind.i64.wrap (u+t1)=t2:=⟨_,rfl⟩
     clear hge
     obtain ⟨u0,u1,u2,u3⟩:=C4.out.c4
     obtain ⟨_,_,_,_,i0,i1,i2,i3,i4,i5,i6,i7⟩:=R4.out.c4
     go_upto_region 7 with (fail)
     obtain ⟨w5,hw5⟩:∃ W,W=Att.putL w4 wo.heap.size 0 [.int .i64 t2]:=⟨_,rfl⟩
     rw [show World.setCell w4 ⟨wo.heap.size,0,none⟩ (.int .i64 t2)=w5 from hw5.symm]
     have C5:Hid (Bx w5 wo.heap.size [.int .i64 t2,.bool s,.slice x k0 m0,.slice x' k' m']):=by rw [hw5];exact qH (C4.out.setAt R4.out 0 dC _)
     have X5:Hid (Ext w1 w5):=by rw [hw5];exact qH (putL_below SZ4.out [_] 0 X4.out)
     have HC5:Hid (Bx w5 E [.slice ao j ko,.bool sc,.slice ca cl ck,.slice ca' cl' ck']):=by rw [hw5];exact qH (HC4.out.keepC (putL_block _ (by have:=SZE.out;omega) _ _ _))
     have HR5:Hid (Rt w5 E 4 142):=by rw [hw5];exact qH (HR4.out.keepB (putL_block _ (by have:=SZE.out;omega) _ _ _))
     have HQ5:Hid (OwnQ 156 0 w5 (.agg #[.bool sc,.slice ca cl ck,.slice ca' cl' ck']) c):=by rw [hw5];exact qH (HQ4.out.putT R4.out dC 0 [_])
     have HQV5:Hid (OwnQ 156 0 w5 (.agg #[.bool s,.slice x k0 m0,.slice x' k' m']) qv):=by rw [hw5];exact qH (HQV4.out.putT R4.out dC 0 [_])
     have HO5:Hid (OwnRow 4 (OwnTm 156) 224 w1.heap.size w5 (.slice ao j ko) ml):=by rw [hw5];exact qH (HO4.out.keepO (fun g hg=>putL_block _ (by have:=HOL.out g hg;omega) _ _ _) fun v a h=>h.putT R4.out dC 0 [_])
     clear hw5 u0 u1 u2 u3 i0 i1 i2 i3 i4 i5 i6 i7 hd2 hd2' ht1 ht2
     have HOT:Hid (OwnTm 156 w5 (.agg #[.int .i64 t2,.bool s,.slice x k0 m0,.slice x' k' m']) (t2,qv)):=⟨_,_,_,rfl,HQV5.out⟩
     obtain ⟨u0,u1,u2,u3⟩:=C5.out.c4
     obtain ⟨e0,e1,e2,e3⟩:=HC5.out.c4
     obtain ⟨ml2,hml2⟩:∃ m2,ml ++ [((t2:Int),qv)]=m2:=⟨_,rfl⟩
     have HML2:Hid (ml2.length=j+1∧∀ t∈ml2,Sz L t.2):=by
      rw [← hml2]
      refine qH ⟨by rw [List.length_append,hml.out.1];rfl,fun t ht=>?_⟩
      rcases List.mem_append.1 ht with ht | ht
      ·exact hml.out.2 t ht
      rw [List.mem_singleton.1 ht];exact HSQ.out
     have HLE:=qH hml2
     clear hml2
     have neO:=HO5.out.ne_rt HR5.out dC
     go_wp2_with (refine build1W etTm rF rF (T:=OwnTm 156) OwnTm.ext rF [.int .i64 t2,.bool s,.slice x k0 m0,.slice x' k' m'] (fill_t1 ..) rfl dC (y:=(t2,qv)) HOT.out ?_;intro g8 w8 x8 _ l8;refine append_rowGL etTm (kdT (e:=156) dC) rF _ _ rF w1.heap.size rF (HO5.out.ext OwnTm.ext x8) rF l8.rd (by rw [hml.out.1];have:=HLL.out;omega) (by rw [hml.out.1];unfold maxLen;have:=HLL.out;omega) (Below.size (eT X5.out x8)) ?_;intro v9 w9 o9 b9 g9 _;have RO9:=qH ((HR5.out.ext x8).grow g9 neO);have DO9:=qH ((HC5.out.ext x8).grow g9 neO);have O9:Hid (OwnRow 4 (OwnTm 156) 224 w1.heap.size w9 v9 ml2):=(by rw [← HLE.out];exact o9);have XW:=qH (Below.trans (eT X5.out x8) b9);obtain ⟨nn,xs,hown⟩:=(HO5.out.ext OwnTm.ext x8).own;have HQ9:Hid (OwnQ 156 0 w9 (.agg #[.bool sc,.slice ca cl ck,.slice ca' cl' ck']) c):=OwnQ.grown (HQ5.out.ext x8) hown dC g9;obtain ⟨a11,k11,he9,-,-⟩:=O9.out.rd.shape;rw [HML2.out.1] at he9;subst he9;obtain ⟨_,_,_,_,f0,f1,f2,f3,f4,f5,f6,f7⟩:=RO9.out.c4)
     go_roundw
     case rel=>exact ⟨j+1,a11,k11,ml2,by go_num,by omega,putL_below HE1.out [_] 0 XW.out,DO9.out.setAt RO9.out 0 dC _,RO9.out.setAt 0 _,HQ9.out.putT RO9.out dC 0 [_],O9.out.putT RO9.out dC 0 [_] (fun v a h=>h.putT RO9.out dC 0 [_]),HML2.out⟩
     simp [intOf]<;>omega
    have hd2:decide (u ≥ i)=false:=decide_eq_false hge
    have hd2':decide (i≤u)=false:=decide_eq_false hge
    clear hge
    obtain ⟨u0,u1,u2,u3⟩:=C4.out.c4
    go_upto_region 7 with (fail)
    obtain ⟨w5,hw5⟩:∃ w0:World,w0=w4:=⟨_,rfl⟩
    subst hw5
    have C5:=C4
    have X5:=X4
    have HC5:=HC4
    have HR5:=HR4
    have HQ5:=HQ4
    have HQV5:=HQV4
    have HO5:=HO4
    clear u0 u1 u2 u3 hd2 hd2'
    have HOT:Hid (OwnTm 156 w5 (.agg #[.int .i64 u,.bool s,.slice x k0 m0,.slice x' k' m']) (u,qv)):=⟨_,_,_,rfl,HQV5.out⟩
    obtain ⟨u0,u1,u2,u3⟩:=C5.out.c4
    obtain ⟨e0,e1,e2,e3⟩:=HC5.out.c4
    obtain ⟨ml2,hml2⟩:∃ m2,ml ++ [((u:Int),qv)]=m2:=⟨_,rfl⟩
    have HML2:Hid (ml2.length=j+1∧∀ t∈ml2,Sz L t.2):=by
     rw [← hml2]
     refine qH ⟨by rw [List.length_append,hml.out.1];rfl,fun t ht=>?_⟩
     rcases List.mem_append.1 ht with ht | ht
     ·exact hml.out.2 t ht
     rw [List.mem_singleton.1 ht];exact HSQ.out
    have HLE:=qH hml2
    clear hml2
    have neO:=HO5.out.ne_rt HR5.out dC
    go_wp2_with (refine build1W etTm rF rF (T:=OwnTm 156) OwnTm.ext rF [.int .i64 u,.bool s,.slice x k0 m0,.slice x' k' m'] (fill_t1 ..) rfl dC (y:=(u,qv)) HOT.out ?_;intro g8 w8 x8 _ l8;refine append_rowGL etTm (kdT (e:=156) dC) rF _ _ rF w1.heap.size rF (HO5.out.ext OwnTm.ext x8) rF l8.rd (by rw [hml.out.1];have:=HLL.out;omega) (by rw [hml.out.1];unfold maxLen;have:=HLL.out;omega) (Below.size (eT X5.out x8)) ?_;intro v9 w9 o9 b9 g9 _;have RO9:=qH ((HR5.out.ext x8).grow g9 neO);have DO9:=qH ((HC5.out.ext x8).grow g9 neO);have O9:Hid (OwnRow 4 (OwnTm 156) 224 w1.heap.size w9 v9 ml2):=(by rw [← HLE.out];exact o9);have XW:=qH (Below.trans (eT X5.out x8) b9);obtain ⟨nn,xs,hown⟩:=(HO5.out.ext OwnTm.ext x8).own;have HQ9:Hid (OwnQ 156 0 w9 (.agg #[.bool sc,.slice ca cl ck,.slice ca' cl' ck']) c):=OwnQ.grown (HQ5.out.ext x8) hown dC g9;obtain ⟨a11,k11,he9,-,-⟩:=O9.out.rd.shape;rw [HML2.out.1] at he9;subst he9;obtain ⟨_,_,_,_,f0,f1,f2,f3,f4,f5,f6,f7⟩:=RO9.out.c4)
    go_roundw
    case rel=>exact ⟨j+1,a11,k11,ml2,by go_num,by omega,putL_below HE1.out [_] 0 XW.out,DO9.out.setAt RO9.out 0 dC _,RO9.out.setAt 0 _,HQ9.out.putT RO9.out dC 0 [_],O9.out.putT RO9.out dC 0 [_] (fun v a h=>h.putT RO9.out dC 0 [_]),HML2.out⟩
    simp [intOf]<;>omega
   obtain rfl:j=l.length:=by omega
   have hd:=dF ((l.length:Int) < (l.length:Int))
   have HRX:RdX wo (.agg #[.slice ao l.length ko,.bool sc,.slice ca cl ck,.slice ca' cl' ck']) ml c:=⟨_,_,_,_,rfl,hO.out.rd,hQ.out⟩
   have HCAN:=qH (canon_any L HRX hml.out.2 (by rw [hml.out.1];exact HLN.out.1) HLN.out.2)
   obtain ⟨j0,j1,j2,j3⟩:=hC.out.c4
   clear HRX
   go_wp2_with fail
   refine HCAN.out.mono ?_
   rintro e w6 ⟨v6,rfl,b6,l',-,hsz,hlen,ho⟩
   obtain ⟨xa,xk,xs,xb,xm,xd,xb',xm',xd',rfl,-,-,HO6⟩:=ho.op
   have HSZ6:Hid ((∀ t∈l',Sz (l.length*(L+1)+1) t.2)∧l'.length≤l.length):=by rw [hml.out.1] at hsz hlen;exact ⟨hsz,hlen⟩
   have RR:=qH (R1.out.ext (eT hX.out b6))
   have X6:=qH (eT b1 (eT hX.out b6))
   have hsz6:=Below.size (eT b1 hX.out)
   clear ho hsz hlen j0 j1 j2 j3
   obtain ⟨_,_,_,_,n0,n1,n2,n3,i0,i1,i2,i3⟩:=RR.out.c4
   go_wp2_with fail
   refine bodyPost_ret (v:=.agg #[.slice xa (List.length l') xk,.bool xs,.slice xb xm xd,.slice xb' xm' xd']) (by simp [results,Tryz.results69,go_sem,n0,n1,n2,n3]) rfl ?_
   exact hR.out _ _ (Gives.mk (put4_below X6.out oM _ _ _ _ _) ⟨l',HSZ6.out.1,HSZ6.out.2,(HO6.out.mono hsz6).putT RR.out dC dC 0 [_,_,_,_]⟩)
end Go.Proofs.YtmlhccajicmpfaaGreat
