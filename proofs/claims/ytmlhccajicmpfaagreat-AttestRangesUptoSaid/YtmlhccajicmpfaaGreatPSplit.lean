/- encode.split -/
import Derived.Test.YtmlhccajicmpfaaGreatSq
import Derived.Test.YtmlhccajicmpfaaGreatPartDE
import Derived.Test.YtmlhccajicmpfaaGreatPartCH
import Derived.Test.YtmlhccajicmpfaaGreatPartCA
set_option maxHeartbeats 40000000
set_option maxRecDepth 100000
set_option linter.unusedSimpArgs false
namespace Go.Att
open Go.RowKit
theorem OwnAt.putT {e t t':TypeId} {w:World} {v:Value} {p:AT} {c m:Nat} (h:OwnAt e t w v p) (hc:Rt w c m t') (h1:t≠t') (h2:e≠t') (i:Nat) (cs:List Value):OwnAt e t (Att.putL w c i cs) v p:=by
 obtain ⟨a,b,d,f,rfl,h⟩:=h
 exact ⟨a,b,d,f,rfl,h.putT hc h1 h2 i cs⟩
theorem GrF.to {S S':Nat→Prop} {n B:Nat} {e:TypeId} {w:World} {v:Value} {l:List Fm} (h:GrF S n e B w v l) (hSS:∀ g,S g→g < w.heap.size→S' g):GrF S' n e B w v l:=by
 obtain ⟨E,hE,hP⟩:=h
 exact ⟨E,hE,hP.mono fun _ _ h=>RdFs.to (fun g hg hlt=>⟨hSS g hg.1 hlt,hg.2⟩) h⟩
mutual
theorem frmF_mono {n m:Int} (h:n≤m):∀ f:Fm,frmF f n=true→frmF f m=true
 | .mk k a l,hf=>by
  unfold frmF at hf ⊢
  by_cases hk:k=1
  ·rw [if_pos hk] at hf ⊢
   simp only [Bool.and_eq_true,decide_eq_true_eq] at hf ⊢
   exact ⟨⟨hf.1.1,by omega⟩,hf.2⟩
  rw [if_neg hk] at hf ⊢
  by_cases h5:k=5∨k=6
  ·rw [if_pos h5] at hf ⊢;exact hf
  rw [if_neg h5] at hf ⊢
  by_cases h2:k=2
  ·rw [if_pos h2] at hf ⊢
   simp only [Bool.and_eq_true,decide_eq_true_eq] at hf ⊢
   exact ⟨hf.1,frmL_mono h l hf.2⟩
  rw [if_neg h2] at hf ⊢
  by_cases h3:k=3∨k=4
  ·rw [if_pos h3] at hf ⊢;exact frmL_mono h l hf
  rw [if_neg h3] at hf;cases hf
theorem frmL_mono {n m:Int} (h:n≤m):∀ l:List Fm,frmL l n=true→frmL l m=true
 | [],_=>by unfold frmL;rfl
 | f :: l,hf=>by
  unfold frmL at hf ⊢
  simp only [Bool.and_eq_true] at hf ⊢
  exact ⟨frmF_mono h f hf.1,frmL_mono h l hf.2⟩
end
theorem own_any {a:Option Addr} {m c m' c':Nat}:(Value.slice a m c).ownBlock=(Value.slice a m' c').ownBlock:=by cases a <;> rfl
def litF (n:Int):Fm:=.mk 1 n []
theorem litF_rd {S:Nat→Prop} {w:World} {n:Int}:RdFs S 1 w (.agg #[.int .i64 1,.int .i64 n,.slice none 0 0]) (litF n):=⟨_,rfl,fun g h=>by simp [Value.ownBlock] at h,[],RdV.nil _ _,trivial⟩
theorem litF_sz {n:Int}:szF (litF n)=1:=by unfold litF szF szL;rfl
theorem litF_frm {n m:Int} (h0:0≤n) (h1:n < m):frmF (litF n) m=true:=by
 unfold litF frmF
 simp [h0,h1]
def andF (n m:Int):Fm:=.mk 3 0 [litF n,litF m]
theorem andF_sz {n m:Int}:szF (andF n m)=3:=by unfold andF szF szL szL szL;rw [litF_sz,litF_sz];rfl
theorem andF_frm {n m k:Int} (h0:0≤n) (h1:n < k) (h2:0≤m) (h3:m < k):frmF (andF n m) k=true:=by
 unfold andF frmF
 rw [if_neg dC,if_neg dC,if_neg dC,if_pos (.inl rfl)]
 unfold frmL frmL frmL
 rw [litF_frm h0 h1,litF_frm h2 h3]
 rfl
theorem fill_f2 (x0 x1 x2 y0 y1 y2:Value):
  Instr.fill (fun i=>some (i*3,3)) ((Array.range (2*3)).map ((Value.agg #[.int .i64 0,.int .i64 0,.slice none 0 0]).cells[· % (Value.agg #[.int .i64 0,.int .i64 0,.slice none 0 0]).cells.size]!)) [(0,.agg #[x0,x1,x2]),(1,.agg #[y0,y1,y2])]=some #[x0,x1,x2,y0,y1,y2]:=by kernel_rfl
end Go.Att
namespace Go.Proofs.YtmlhccajicmpfaaGreat
open Go.RowKit Go.Att

def LsP (B b:Nat) (a:Option Addr) (c:Nat) (w:World) (ats:List AT):Prop:=Bx w b [.slice a ats.length c]∧Rt w b 1 49∧OwnRow 5 OwnA 144 B w (.slice a ats.length c) ats
theorem LsP.ext {B b c:Nat} {a:Option Addr} {w w':World} {ats:List AT} (h:LsP B b a c w ats) (x:Ext w w'):LsP B b a c w' ats:=⟨h.1.ext x,h.2.1.ext x,h.2.2.ext OwnAt.ext x⟩
theorem slit_any {B b c:Nat} {a:Option Addr} {w:World} {va:Value} {at':AT} {ats:List AT} (h:LsP B b a c w ats) (ha:OwnA w va at') (hB:B≤b) (hn:ats.length≤1000):
  Calls Tryz.prog 68 #[va,.pointer (some ⟨b,0,none⟩)] w (GivB B w fun v' w'=>v'=.agg #[.int .i64 1,.int .i64 ats.length,.slice none 0 0]∧∃ a' c',LsP B b a' c' w' (ats ++ [at'])∧
   (∀ g,(Value.slice a' (ats ++ [at']).length c').ownBlock=some g→(Value.slice a ats.length c).ownBlock=some g∨w.heap.size≤g)∧(∀ g,g < w.heap.size→g≠b→(Value.slice a ats.length c).ownBlock≠some g→w'.heap[g]?=w.heap[g]?)∧∀ v p,OwnA w v p→OwnA w' v p):=by
 refine via fun R hR=>?_
 obtain ⟨xa,xk,xs,xb,xm,xd,xb',xm',xd',rfl,HA⟩:=ha.op
 obtain ⟨hC,hRt,hO⟩:=h
 have HBB:=qH hB
 have HBW:Hid (b < w.heap.size):=hRt.lt
 obtain ⟨w1,hw1,b1,c1,-,-,-,hs1⟩:=bx2 w [.slice xa at'.1.1.length xk,.bool xs,.slice xb xm xd,.slice xb' xm' xd',.int .i64 at'.2] [.int .i64 0,.int .i64 0,.slice none 0 0] 144 29
 have HW:=qH hw1
 have HS1:=qH hs1
 have R1:Hid (Rt w1 (w.heap.size+1) 3 29):=by
  show Rt _ _ _ _
  rw [hw1]
  have:=Rt.new (w.alloc (.cells #[.slice xa at'.1.1.length xk,.bool xs,.slice xb xm xd,.slice xb' xm' xd',.int .i64 at'.2] 144)) [.int .i64 0,.int .i64 0,.slice none 0 0] 29
  simpa using this
 have HC1:=qH (hC.ext b1)
 have HR1:=qH (hRt.ext b1)
 have HO1:=qH (hO.ext OwnAt.ext b1)
 have HEL:Hid (OwnA w1 (.agg #[.slice xa at'.1.1.length xk,.bool xs,.slice xb xm xd,.slice xb' xm' xd',.int .i64 at'.2]) at'):=⟨_,_,_,_,rfl,HA.out.ext b1⟩
 have HOLT:Hid (∀ g,(Value.slice a ats.length c).ownBlock=some g→g < w.heap.size):=fun g hg=>(OwnRow.lt hO g hg).2
 have HX1:=qH b1
 obtain ⟨j0,j1,j2,j3,j4⟩:=c1.c5
 obtain ⟨nn,hnn⟩:∃ nn,ats.length=nn:=⟨_,rfl⟩
 obtain ⟨n2,hn2⟩:∃ n2,nn+1=n2:=⟨_,rfl⟩
 obtain ⟨ats2,hats2⟩:∃ a2,ats ++ [at']=a2:=⟨_,rfl⟩
 have HN2:Hid (ats2.length=n2):=by rw [← hats2,List.length_append,hnn,← hn2];exact qH rfl
 have HNN:Hid (ats.length=nn∧nn≤1000∧n2=nn+1):=⟨hnn,by omega,hn2.symm⟩
 have HLE:=qH hats2
 have neO:=hO.ne_rt hRt dC
 have HNE:=qH neO
 have hwr:IntKind.i64.wrap ((n2:Int) - 1)=(nn:Int):=by rw [IntKind.wrap_i64];omega
 rw [hnn] at HC1 HO1 HOLT HNE hR
 rw [hats2] at hR
 obtain ⟨tl,htl⟩:∃ tl,List.length at'.1.1=tl:=⟨_,rfl⟩
 rw [htl] at j0 HEL HW ⊢
 generalize at'.2=op at*
 clear hw1 hs1 c1 hC hRt hO hB hn hnn hn2 hats2 neO HA htl
 go_enter Tryz.func68,Tryz.ntmps68
 go_upto_region 1 with (fail)
 rw [← HW.out]
 clear HW
 have e0:=HC1.out.c1
 go_upto_region 2 with (refine build1W etAt rF rF (T:=OwnA) OwnAt.ext rF [.slice xa tl xk,.bool xs,.slice xb xm xd,.slice xb' xm' xd',.int .i64 op] (fill_a1 ..) rfl dC (y:=at') HEL.out ?_;intro g8 w8 x8 _ l8;refine append_rowGL etAt (kdAt dC dC) rF _ _ rF B rF (HO1.out.ext OwnAt.ext x8) rF l8.rd (by rw [HNN.out.1];have:=HNN.out;omega) (by rw [HNN.out.1];unfold maxLen;have:=HNN.out;omega) (by have:=HBB.out;have:=HBW.out;have:=Below.size (eT HX1.out x8);omega) ?_;intro v9 w9 o9 b9 g9 hw9;have RO9:=qH ((HR1.out.ext x8).grow g9 HNE.out);have DO9:=qH ((HC1.out.ext x8).grow g9 HNE.out);have O9:Hid (OwnRow 5 OwnA 144 B w9 v9 ats2):=(by rw [← HLE.out];exact o9);have X8:=qH (eT HX1.out x8);have RX9:=qH (((R1.out.ext x8).grow g9 (fun he=>by have:=HOLT.out _ he;omega)));have G9:=qH g9;have HW9:=qH hw9;have BB9:=qH b9;have K9:Hid (∀ v p,OwnA w v p→OwnA w9 v p):=(fun v p h=>by obtain ⟨_,_,hown⟩:=OwnRow.own (HO1.out.ext OwnAt.ext x8);exact (kdAt dC dC).grown (OwnAt.ext h (eT HX1.out x8)) hown g9);obtain ⟨a11,k11,he9,-,-⟩:=O9.out.rd.shape;rw [HN2.out] at he9;subst he9;obtain ⟨_,f0,f1⟩:=RO9.out.rm.at 0 dC;obtain ⟨_,_,_,r0,r1,r2,i0,i1,i2⟩:=RX9.out.rm.c3)
 obtain ⟨w10,hw10⟩:∃ W,W=Att.putL w9 b 0 [.slice a11 n2 k11]:=⟨_,rfl⟩
 rw [show World.setCell w9 ⟨b,0,none⟩ (.slice a11 n2 k11)=w10 from hw10.symm]
 have hbne:w.heap.size+1≠b:=by have:=HBW.out;omega
 have C10:Hid (Bx w10 b [.slice a11 n2 k11]):=by rw [hw10];exact qH (DO9.out.setAt RO9.out 0 dC _)
 have R10:Hid (Rt w10 b 1 49):=by rw [hw10];exact qH (RO9.out.setAt 0 _)
 have O10:Hid (OwnRow 5 OwnA 144 B w10 (.slice a11 n2 k11) ats2):=by
  have hne:∀ g,(Value.slice a11 n2 k11).ownBlock=some g→g≠b:=fun g hg he=>by
   subst he
   exact (O9.out.ne_rt RO9.out dC) hg
  rw [hw10]
  exact qH (O9.out.keepO (fun g hg=>putL_block _ (hne g hg) _ _ _) fun v x h=>OwnAt.putT h RO9.out dC dC 0 [_])
 have RX10:Hid (Rt w10 (w.heap.size+1) 3 29):=by rw [hw10];exact qH (RX9.out.keepB (putL_block _ hbne _ _ _))
 have F10:Hid (∀ g,g < w.heap.size→g≠b→(Value.slice a nn c).ownBlock≠some g→w10.heap[g]?=w.heap[g]?):=fun g hg hgb hgo=>by
  rw [hw10,putL_block _ hgb,G9.out.block g (Nat.lt_of_lt_of_le hg (Below.size X8.out)) (fun he=>hgo he.symm)]
  exact X8.out.block g hg
 have B10:Hid (Below B w w10):=by
  rw [hw10]
  exact qH (putL_below HBB.out [_] 0 (Below.trans (Below.mono X8.out (by have:=HBB.out;have:=HBW.out;omega)) BB9.out))
 have K10:Hid (∀ v p,OwnA w v p→OwnA w10 v p):=fun v p h=>by rw [hw10];exact OwnAt.putT (K9.out v p h) RO9.out dC dC 0 [_]
 clear hw10 f0 f1 r0 r1 r2 i0 i1 i2 e0 RO9 DO9 O9
 have e0:=C10.out.c1
 obtain ⟨_,_,_,r0,r1,r2,i0,i1,i2⟩:=RX10.out.rm.c3
 go_wp2_with fail
 refine bodyPost_ret (v:=.agg #[.int .i64 1,.int .i64 nn,.slice none 0 0]) (by simp [results,Tryz.results68,go_sem,r0,r1,r2]) rfl ?_
 refine hR.out _ _ (GivB.mk (putL_below (by have:=HBB.out;have:=HBW.out;omega) [_,_,_] 0 B10.out) ⟨rfl,a11,k11,?_,?_,?_,fun v p h=>OwnAt.putT (K10.out v p h) RX10.out dC dC 0 [_,_,_]⟩)
 ·have hne:∀ g,(Value.slice a11 n2 k11).ownBlock=some g→g≠w.heap.size+1:=fun g hg he=>by
   subst he
   exact (O10.out.ne_rt RX10.out dC) hg
  exact ⟨by rw [HN2.out];exact C10.out.keepC (putL_block _ (Ne.symm hbne) [_,_,_] _ 0),R10.out.keepB (putL_block _ (Ne.symm hbne) [_,_,_] _ 0),by rw [HN2.out];exact O10.out.keepO (fun g hg=>putL_block _ (hne g hg) [_,_,_] _ 0) fun v x h=>OwnAt.putT h RX10.out dC dC 0 [_,_,_]⟩
 ·intro g hg
  rw [HN2.out] at hg
  rcases HW9.out g hg with h | h
  ·exact .inl h
  exact .inr (Nat.le_trans (Below.size X8.out) h)
 intro g hg hgb hgo
 rw [← F10.out g hg hgb hgo]
 exact putL_block _ oM [_,_,_] _ 0
def Pg (b:Nat) (a:Option Addr) (g:Nat):Prop:=b < g∧(Value.slice a 0 0).ownBlock≠some g
def FsP (B b:Nat) (a:Option Addr) (w:World) (v:Value) (l:List Fm):Prop:=GrF (Pg b a) 2 29 B w v l∧∀ g,v.ownBlock=some g→Pg b a g
theorem FsP.ext {B b:Nat} {a:Option Addr} {w w':World} {v:Value} {l:List Fm} (h:FsP B b a w v l) (x:Ext w w'):FsP B b a w' v l:=⟨h.1.ext x,h.2⟩
theorem FsP.slit {B b n c n' c':Nat} {a a':Option Addr} {w w':World} {v:Value} {l:List Fm} (h:FsP B b a w v l) (h1:∀ g,(Value.slice a' n' c').ownBlock=some g→(Value.slice a n c).ownBlock=some g∨w.heap.size≤g) (h2:∀ g,g < w.heap.size→g≠b→(Value.slice a n c).ownBlock≠some g→w'.heap[g]?=w.heap[g]?):FsP B b a' w' v l:=by
 have key:∀ g,Pg b a g→g < w.heap.size→Pg b a' g:=fun g hg hlt=>⟨hg.1,fun he=>by
  rcases h1 g ((own_any).trans he) with h3 | h3
  ·exact hg.2 ((own_any).trans h3)
  omega⟩
 have hfr:∀ g,Pg b a g→g < w.heap.size→w'.heap[g]?=w.heap[g]?:=fun g hg hlt=>h2 g hlt (by have:=hg.1;omega) fun he=>hg.2 ((own_any).trans he)
 have h3:GrF (fun g=>Pg b a g∧Pg b a' g) 2 29 B w v l:=h.1.to fun g hg hlt=>⟨hg,key g hg hlt⟩
 have h4:GrF (fun g=>Pg b a g∧Pg b a' g) 2 29 B w' v l:=h3.keep fun g hg hlt=>hfr g (hg.elim (fun h=>h.1) fun hv=>h.2 g hv) hlt
 exact ⟨h4.to fun g hg _=>hg.2,fun g hg=>key g (h.2 g hg) (GrF.lt h.1 g hg).2⟩
theorem LsP.grow {B b c n m:Nat} {a:Option Addr} {w w':World} {ats:List AT} {v:Value} {xs:List Value} (h:LsP B b a c w ats) (hb:v.ownBlock≠some b) (hr:w.ownsRow B 29 n v m xs) (hg:w.grownBy w' v.ownBlock):LsP B b a c w' ats:=
 ⟨h.1.grow hg hb,h.2.1.grow hg hb,OwnRow.grown h.2.2 (fun _ _ h=>(kdAt dC dC).grown h hr hg) hr dC hg⟩
theorem FsP.app {B b:Nat} {a:Option Addr} {w w':World} {v v':Value} {l l':List Fm} (h:FsP B b a w v l) (hg:GrF (Pg b a) 2 29 B w' v' l') (hw:∀ g,v'.ownBlock=some g→v.ownBlock=some g∨w.heap.size≤g) (hb:b < w.heap.size) (ha:∀ g,(Value.slice a 0 0).ownBlock=some g→g < w.heap.size):FsP B b a w' v' l':=
 ⟨hg,fun g he=>by
  rcases hw g he with h3 | h3
  ·exact h.2 g h3
  exact ⟨by omega,fun h4=>by have:=ha g h4;omega⟩⟩
theorem FsP.moved {B b:Nat} {a a':Option Addr} {w w':World} {v:Value} {l:List Fm} (h:FsP B b a w v l) (hk:∀ g,g < w.heap.size→Pg b a g→w'.heap[g]?=w.heap[g]?) (hq:∀ g,g < w.heap.size→Pg b a g→Pg b a' g):FsP B b a' w' v l:=by
 have h3:GrF (fun g=>Pg b a g∧g < w.heap.size) 2 29 B w v l:=h.1.to fun g hg hlt=>⟨hg,hlt⟩
 have h4:GrF (fun g=>Pg b a g∧g < w.heap.size) 2 29 B w' v l:=h3.keep fun g hg hlt=>hk g hlt (hg.elim (fun h=>h.1) fun hv=>h.2 g hv)
 exact ⟨h4.to fun g hg _=>hq g hg.2 hg.1,fun g hg=>hq g (GrF.lt h.1 g hg).2 (h.2 g hg)⟩
theorem LsP.putF {B b c BA:Nat} {a:Option Addr} {w:World} {ats:List AT} (h:LsP B b a c w ats) (hr:Rt w BA 3 29) (hne:b≠BA) (cs:List Value):LsP B b a c (Att.putL w BA 0 cs) ats:=by
 have hn:∀ g,(Value.slice a ats.length c).ownBlock=some g→g≠BA:=fun g hg he=>by
  subst he
  exact (h.2.2.ne_rt hr dC) hg
 exact ⟨h.1.keepC (putL_block BA hne cs w 0),h.2.1.keepB (putL_block BA hne cs w 0),h.2.2.keepO (fun g hg=>putL_block BA (hn g hg) cs w 0) fun v x h=>OwnAt.putT h hr dC dC 0 cs⟩
def SzA (p:AT):Prop:=p.1.1.length≤12∧(∀ t∈p.1.1,Sz 2000 t.2)∧Sz 2000 p.1.2
theorem split_any {w:World} {v:Value} {p:Pr (Rat × Rat) AT} {i o:Int} (hv:RdPr SnD OwnA w v p) (hs:∀ a∈p.2.1,Smx a.1.1 a.1.2) (hn:p.2.1.length≤10) (hf:frmF p.2.2 p.2.1.length=true) (hz:szF p.2.2≤60):
  Calls Tryz.prog 44 #[v,.int .i64 i,.int .i64 o] w (Gives w fun v' w'=>∃ (fv:Value) (f:Fm) (a:Option Addr) (c:Nat) (ats:List AT),v'=.tuple #[fv,.slice a ats.length c]∧(∃ k,RdFs (fun g=>w.heap.size≤g) k w' fv f)∧chkF f ats.length=0∧ats.length≤20∧(∀ a∈ats,SzA a)∧OwnRow 5 OwnA 144 w.heap.size w' (.slice a ats.length c) ats):=by
 refine via fun R hR=>?_
 obtain ⟨ab,cb,aa,ca,xf,kf,rfl,hBX,hAT,hFM⟩:=hv.op
 have HAT:=qH hAT
 have HFM:=qH hFM
 have HS:=qH hs
 have HNA:Hid (p.2.1.length≤10):=hn
 have HFR:=qH hf
 have HFZ:=qH hz
 obtain ⟨w1,hw1,b1,c1,-,-,-,hs1⟩:=bx2 w [.slice ab p.1.length cb,.slice aa p.2.1.length ca,.int .i64 p.2.2.k,.int .i64 p.2.2.a,.slice xf p.2.2.sub.length kf] [.int .i64 0,.int .i64 0,.slice none 0 0] 51 29
 have HW:=qH hw1
 have C1:=qH c1
 have HS1:=qH hs1
 have R1:Hid (Rt w1 (w.heap.size+1) 3 29):=by
  show Rt _ _ _ _
  rw [hw1]
  have:=Rt.new (w.alloc (.cells #[.slice ab p.1.length cb,.slice aa p.2.1.length ca,.int .i64 p.2.2.k,.int .i64 p.2.2.a,.slice xf p.2.2.sub.length kf] 51)) [.int .i64 0,.int .i64 0,.slice none 0 0] 29
  simpa using this
 clear hw1 c1 hs1 hv hBX hAT hFM hs hn hf hz
 obtain ⟨bx,ats,fm⟩:=p
 dsimp only at*
 generalize bx.length=nb at*
 obtain ⟨na,hna⟩:∃ na,ats.length=na:=⟨_,rfl⟩
 have HNL:=qH hna
 rw [hna] at HAT HNA HFR C1 HW ⊢
 generalize fm.k=fk at*
 generalize fm.a=fa at*
 generalize fm.sub.length=fn at*
 clear hna
 go_enter Tryz.func44,Tryz.ntmps44
 go_upto_region 1 with (fail)
 rw [← HW.out]
 clear HW
 obtain ⟨w2,hw2,b2,c2,-,-⟩:=bx1 w1 [.slice none 0 0] 49
 have HW:=qH hw2
 have R2:Hid (Rt w2 w1.heap.size 1 49):=by show Rt _ _ _ _;rw [hw2];exact Rt.new w1 [_] _
 have L2:Hid (LsP w1.heap.size w1.heap.size none 0 w2 []):=⟨c2,R2.out,OwnRow.nil _ _ _⟩
 have X2:=qH b2
 clear hw2 c2 b2
 go_upto_region 2 with (fail)
 rw [← HW.out]
 clear HW
 obtain ⟨j0,j1,j2,j3,j4⟩:=(C1.out.ext X2.out).c5
 go_wp2_with fail
 clear j0 j1 j2 j3 j4
 have HBB:Hid (w1.heap.size < w2.heap.size):=R2.out.lt
 go_loopw [9,20] (fun q t wr=>∃ (j:Nat) (af:Option Addr) (cf:Nat) (al:Option Addr) (cl:Nat) (L:List AT) (F:List Fm),t=.int .i64 j∧q=.slice af j cf∧j≤na∧Hid (Ext w1 wr)∧Hid (LsP w1.heap.size w1.heap.size al cl wr L)∧Hid (FsP w1.heap.size w1.heap.size al wr (.slice af j cf) F)∧Hid (F.length=j∧L.length≤2*j∧(∀ a∈L,SzA a)∧∀ g∈F,frmF g L.length=true∧szF g≤3)) (fun _ t _=>na - (intOf t).toNat)
 case atStart=>exact ⟨0,none,0,none,0,[],[],rfl,rfl,Nat.zero_le _,X2.out,L2.out,⟨GrF.nil _ _ _ _ _,fun g h=>by simp [Value.ownBlock] at h⟩,rfl,Nat.zero_le _,(fun a h=>by cases h),fun g h=>by cases h⟩
 case round=>
  clear L2 X2 R2 HBB
  obtain ⟨j,af,cf,al,cl,L,F,rfl,rfl,hj,hX,hL,hF,hP⟩:=hrel
  obtain ⟨wo,hwo⟩:∃ w0:World,w0=wr:=⟨_,rfl⟩
  subst hwo
  by_cases hjl:j < na
  ·have hd:=dT ((j:Int) < (na:Int))
   have HJ1:IntKind.i64.wrap ((j:Int)+1)=((j+1:Nat):Int):=by have:=HNA.out;rw [IntKind.wrap_i64];omega
   have HJ2:(0:Int)≤(j:Int)∧(j:Int) < (na:Int):=⟨by omega,by omega⟩
   have HJN:Hid (j < 10):=by have:=HNA.out;exact qH oM
   have hja:j < ats.length:=by rw [HNL.out];exact hjl
   obtain ⟨bL,oL,x0,k0,s,y,mm,dd,y',m',d',hae,hbo,hE⟩:=(HAT.out.ext OwnAt.ext (eT b1 hX.out)).atm j hja
   subst hae
   have HSX:=qH (HS.out _ (List.getElem_mem hja))
   obtain ⟨e,he⟩:∃ e,ats[j]=e:=⟨_,rfl⟩
   rw [he] at hbo hE HSX
   clear he hja
   obtain ⟨u0,u1,u2,u3,u4⟩:=hbo.c5
   obtain ⟨w4,hw4,b4,c4,-,-⟩:=bx1 wo [.slice x0 e.1.1.length k0,.bool s,.slice y mm dd,.slice y' m' d',.int .i64 e.2] 144
   have HW:=qH hw4
   have C4:=qH c4
   have HRX:RdX w4 (.agg #[.slice x0 e.1.1.length k0,.bool s,.slice y mm dd,.slice y' m' d']) e.1.1 e.1.2:=(hE.ext b4).rd
   have HMV:=qH (moved_any (i:=i) (o:=o) 8 HRX HSX.out.2.1 (by have:=HSX.out.1;omega) dC)
   have HB4:=qH b4
   generalize e.2=op at*
   obtain ⟨tn,htn⟩:∃ tn,List.length e.1.1=tn:=⟨_,rfl⟩
   rw [htn] at u0 C4 HW HMV
   have HTN:Hid (tn≤12):=by rw [← htn];exact qH HSX.out.1
   have HCZ:Hid (Sz 8 e.1.2):=HSX.out.2.2
   generalize e.1.2=cc at*
   clear hw4 c4 hbo hE HRX htn HSX b4
   go_upto_region 7 with (fail)
   rw [← HW.out]
   clear HW u0 u1 u2 u3 u4
   obtain ⟨u0,u1,u2,u3,u4⟩:=C4.out.c5
   go_wp2_with fail
   refine HMV.out.mono ?_
   rintro e w5 ⟨_,rfl,b5,l',hsz,hlen,ho⟩
   obtain ⟨xa,xk,xs,xb,xm,xd,xb',xm',xd',rfl,-,-,HO5⟩:=ho.op
   obtain ⟨w6,hw6,b6,c6,-,-⟩:=bx1 w5 [.slice xa (List.length l') xk,.bool xs,.slice xb xm xd,.slice xb' xm' xd'] 142
   have HW:=qH hw6
   have C6:=qH c6
   have X46:=qH (eT HB4.out (eT b5 b6))
   have C46:=qH (C4.out.ext (eT b5 b6))
   have X6:=qH (eT hX.out X46.out)
   have SZ5:Hid (w1.heap.size < w5.heap.size∧∀ g,(Value.slice al 0 0).ownBlock=some g→g < w5.heap.size):=by
    have h1:=Below.size (eT HB4.out b5)
    have h2:w1.heap.size < wo.heap.size:=hL.out.2.1.lt
    exact qH ⟨by omega,fun g hg=>by have:=(OwnRow.lt hL.out.2.2 g (own_any.trans hg)).2;omega⟩
   have L6:=qH (hL.out.ext X46.out)
   have F6:=qH (hF.out.ext X46.out)
   have HSL:Hid (l'.length≤12∧∀ t∈l',Sz 109 t.2):=by have h:=HTN.out;exact qH ⟨Nat.le_trans hlen h,fun t ht=>(hsz t ht).le oM⟩
   have HE6:Hid (OwnEx 156 224 0 w6 (.agg #[.slice xa (List.length l') xk,.bool xs,.slice xb xm xd,.slice xb' xm' xd']) l' cc):=(OwnEx.mono HO5.out (Nat.zero_le _)).ext b6
   have SZB:Hid (w1.heap.size < w6.heap.size):=L6.out.2.1.lt
   clear hw6 c6 ho hsz hlen HO5 HMV HB4 u0 u1 u2 u3 u4 b5 b6 hX hL hF
   go_upto_region 8 with (fail)
   rw [← HW.out]
   clear HW
   obtain ⟨u0,u1,u2,u3,u4⟩:=C46.out.c5
   obtain ⟨q0,q1,q2,q3⟩:=C6.out.c4
   obtain ⟨xl,hxl⟩:∃ xl,List.length l'=xl:=⟨_,rfl⟩
   by_cases h3:op=3
   ·subst h3
    have HAE:Hid (OwnA w6 (.agg #[.slice xa (List.length l') xk,.bool xs,.slice xb xm xd,.slice xb' xm' xd',.int .i64 1]) ((l',cc),1)):=⟨_,_,_,_,rfl,HE6.out⟩
    have HSLT:=qH (slit_any L6.out HAE.out (Nat.le_refl _) (by have:=hP.out;have:=HJN.out;omega))
    rw [hxl] at q0 HSLT C6 HAE
    go_wp2_with fail
    refine HSLT.out.mono ?_
    rintro e w7 ⟨_,rfl,b7,rfl,a7,c7,hls,hA1,hA2,hA3⟩
    have L7:=qH hls
    have F7:=qH (F6.out.slit hA1 hA2)
    have X7:Hid (Ext w1 w7):=Below.trans X6.out b7
    have hb5:w1.heap.size < w5.heap.size:=SZ5.out.1
    have C7:=qH (C6.out.keepC (hA2 _ C6.out.lt oM (fun he=>by have:=SZ5.out.2 _ (own_any.trans he);omega)))
    have NE5:Hid ((Value.slice a7 0 0).ownBlock≠some w5.heap.size):=fun he=>by
     rcases hA1 _ (own_any.trans he) with h | h
     ·have:=SZ5.out.2 _ (own_any.trans h);omega
     have:=C6.out.lt;omega
    have NB5:Hid (w5.heap.size≠w1.heap.size):=qH oM
    have HE7:Hid (OwnEx 156 224 0 w7 (.agg #[.slice xa xl xk,.bool xs,.slice xb xm xd,.slice xb' xm' xd']) l' cc):=by
     obtain ⟨_,_,_,_,he,h⟩:=hA3 _ _ HAE.out
     simp only [Value.agg.injEq,Array.mk.injEq,List.cons.injEq,and_true] at he
     obtain ⟨rfl,rfl,rfl,rfl,-⟩:=he
     exact h
    have ROW7:Hid (∀ g,(Value.slice a7 0 0).ownBlock=some g→g < w7.heap.size):=fun g hg=>(OwnRow.lt L7.out.2.2 g (own_any.trans hg)).2
    obtain ⟨L1,hL1⟩:∃ L1,L ++ [((l',cc),(1:Int))]=L1:=⟨_,rfl⟩
    have HL1:Hid (L1.length≤1000):=by rw [← hL1,List.length_append];have:=hP.out;have:=HJN.out;exact qH (by simp only [List.length_cons,List.length_nil];omega)
    have HLE1:=qH hL1
    rw [hL1] at L7
    obtain ⟨w8,hw8,b8,c8,-,hs8⟩:=bx1 w7 [.int .i64 1,.int .i64 L.length,.slice none 0 0] 29
    have HW:=qH hw8
    have C14:=qH c8
    have C8:=qH (C7.out.ext b8)
    have L8:=qH (L7.out.ext b8)
    have F8:=qH (F7.out.ext b8)
    have X8:=qH (eT X7.out b8)
    have HE8:=qH (HE7.out.ext b8)
    have NE7:Hid ((Value.slice a7 0 0).ownBlock≠some w7.heap.size):=fun he=>by have:=ROW7.out _ he;omega
    have SZ78:Hid (w1.heap.size < w7.heap.size∧w5.heap.size < w7.heap.size∧w8.heap.size=w7.heap.size+1):=⟨L7.out.2.1.lt,C7.out.lt,hs8⟩
    have NB7:Hid (w7.heap.size≠w1.heap.size):=by have:=SZ78.out;exact qH oM
    obtain ⟨r1,hr1⟩:∃ r:Rat,((-1:Int):Rat)=r:=⟨_,rfl⟩
    have HRZ:Hid (Sz 2 r1):=hr1 ▸ Sz.int (-1) oM
    have HRI:Hid (∀ w',Calls Tryz.prog 5 #[.int .i64 (-1)] w' (Gives w' fun v' w''=>OwnQ 156 0 w'' v' r1)):=fun w'=>by
     rw [← hr1]
     exact (rint_any (u := -1) oM).mono fun _ _ ⟨v,e,b,o⟩=>⟨v,e,b,o.mono (Nat.zero_le _)⟩
    clear hr1
    obtain ⟨c2,hc2⟩:∃ c:Rat,r1*cc=c:=⟨_,rfl⟩
    have HCZ2:Hid (Sz 10 c2):=by rw [← hc2];exact qH (HRZ.out.mul HCZ.out)
    have HSCL:Hid (∀ w' vr v,OwnQ 156 0 w' vr r1→RdX w' v l' cc→Calls Tryz.prog 70 #[vr,v] w' (Gives w' fun v' w''=>∃ l2:TL,SzA ((l2,c2),1)∧OwnEx 156 224 0 w'' v' l2 c2)):=fun w' vr v h1 h2=>by
     rw [← hc2]
     refine (lscale_any 2 109 8 h1 h2 HRZ.out HSL.out.2 HCZ.out (by have:=HSL.out.1;omega) dC dC).mono ?_
     rintro _ _ ⟨v,e,b,l2,_,_,h3,h4,h5⟩
     exact ⟨v,e,b,l2,⟨Nat.le_trans h4 HSL.out.1,fun t ht=>(h3 t ht).le (by have:=HSL.out.1;omega),(HRZ.out.mul HCZ.out).le dC⟩,h5.mono (Nat.zero_le _)⟩
    clear hc2
    clear hls hA1 hA2 hA3 hL1 HSLT u0 u1 u2 u3 u4 q0 q1 q2 q3 b7 hw8 c8 hs8 hb5
    go_upto_region 10 with (fail)
    rw [← HW.out]
    clear HW
    go_cut [15] (fun s15 wx=>∃ (BA:Nat) (a9:Option Addr) (c9:Nat) (p2:AT),s15=.pointer (some ⟨BA,0,none⟩)∧Hid (Ext w1 wx)∧Hid (LsP w1.heap.size w1.heap.size a9 c9 wx (L1 ++ [p2]))∧Hid (FsP w1.heap.size w1.heap.size a9 wx (.slice af j cf) F)∧Hid (SzA p2)∧Hid (Bx wx w7.heap.size [.int .i64 1,.int .i64 L.length,.slice none 0 0])∧Hid (Bx wx BA [.int .i64 1,.int .i64 L1.length,.slice none 0 0]))
    case first=>
     have b9:=drew_ext w8
     have XE:=b9
     refine wp_region_noPanic ?_
     refine wp_region_held_drew (S:=fun w'=>w'.cell? ⟨w5.heap.size,0,none⟩=some (.slice xa xl xk)∧w'.cell? ⟨w5.heap.size,1,none⟩=some (.bool xs)∧w'.cell? ⟨w5.heap.size,2,none⟩=some (.slice xb xm xd)∧w'.cell? ⟨w5.heap.size,3,none⟩=some (.slice xb' xm' xd')) kR ((C8.out.ext XE).c4) (fun hHeld=>?_)
     refine gen_world (P:=wpAnyH _ _ _ _ _ _ _ _) _ (fun wn hwn=>?_)
     have bn:Ext w8 wn:=(hwn.symm ▸ drew_ext w8)
     rw [← hwn] at hHeld
     clear hwn
     have WC:=qH (C8.out.ext bn)
     have WC14:=qH (C14.out.ext bn)
     have WL:=qH (L8.out.ext bn)
     have FR:Hid (∀ g,g < w8.heap.size→Pg w1.heap.size a7 g→wn.heap[g]?=w8.heap[g]?):=(fun g hg _=>bn.block g hg)
     have WX:=qH (eT X8.out bn)
     have WZ:Hid (w8.heap.size≤wn.heap.size):=Below.size bn
     have WE:=qH (HE8.out.ext bn)
     refine tkH 0 hHeld ?_
     simp only [jP,jJ]
     refine tkH 2 hHeld ?_
     simp only [jP,jJ]
     refine wpAnyH_ready (rs:=[1,6]) kR (by simp) ?_
     refine AllReadyH.cons (o:=_) rfl (fun K hK=>?_) (AllReadyH.cons (o:=_) rfl (fun K hK=>?_) AllReadyH.nil)
     ·skip
      go_simp
      go_at_call 5
      refine (HRI.out _).mono ?_
      rintro e wn ⟨v37,rfl,bn,oq⟩
      obtain ⟨s37,a37,l37,k37,b37,m37,d37,rfl,OQ⟩:=oq.op
      clear oq
      have WE:=qH (WE.out.ext bn)
      have WC:=qH (WC.out.ext bn)
      have WC14:=qH (WC14.out.ext bn)
      have WL:=qH (WL.out.ext bn)
      have FR:Hid (∀ g,g < w8.heap.size→Pg w1.heap.size a7 g→wn.heap[g]?=w8.heap[g]?):=(fun g hg hp=>(bn.block g (Nat.lt_of_lt_of_le hg WZ.out)).trans (FR.out g hg hp))
      have WX:=qH (eT WX.out bn)
      have WZ:Hid (w8.heap.size≤wn.heap.size):=Nat.le_trans WZ.out (Below.size bn)
      try have RA:=qH (RA.out.ext bn)
      go_wp2_with fail
      refine hK.out _ _ WC.out.c4 (fun hHeld=>?_)
      clear hK K
      try simp only [jP,jJ]
      refine wpAnyH_ready (rs:=[3,6]) kR (by simp) ?_
      refine AllReadyH.cons (o:=_) rfl (fun K hK=>?_) (AllReadyH.cons (o:=_) rfl (fun K hK=>?_) AllReadyH.nil)
      ·skip
       go_simp
       go_at_call 70
       refine (HSCL.out _ _ _ OQ.out WE.out.rd).mono ?_
       rintro e wn ⟨v39,rfl,bn,l2,hz2,ho2⟩
       obtain ⟨ya,yk,ys,yb,ym,yd,yb',ym',yd',rfl,-,-,OE2⟩:=ho2.op
       have HSZ2:=qH hz2
       clear ho2 hz2
       have WC:=qH (WC.out.ext bn)
       have WC14:=qH (WC14.out.ext bn)
       have WL:=qH (WL.out.ext bn)
       have FR:Hid (∀ g,g < w8.heap.size→Pg w1.heap.size a7 g→wn.heap[g]?=w8.heap[g]?):=(fun g hg hp=>(bn.block g (Nat.lt_of_lt_of_le hg WZ.out)).trans (FR.out g hg hp))
       have WX:=qH (eT WX.out bn)
       have WZ:Hid (w8.heap.size≤wn.heap.size):=Nat.le_trans WZ.out (Below.size bn)
       try have RA:=qH (RA.out.ext bn)
       go_wp2_with fail
       refine hK.out _ _ WC.out.c4 (fun hHeld=>?_)
       clear hK K
       try simp only [jP,jJ]
       refine tkH 4 hHeld ?_
       simp only [jP,jJ]
       refine wpAnyH_ready (rs:=[5,6]) kR (by simp) ?_
       refine AllReadyH.cons (o:=_) rfl (fun K hK=>?_) (AllReadyH.cons (o:=_) rfl (fun K hK=>?_) AllReadyH.nil)
       ·skip
        have HAE2:OwnA wn (.agg #[.slice ya (List.length l2) yk,.bool ys,.slice yb ym yd,.slice yb' ym' yd',.int .i64 1]) ((l2,c2),1):=⟨_,_,_,_,rfl,OE2.out⟩
        have HSL2:=qH (slit_any WL.out HAE2 (Nat.le_refl _) HL1.out)
        go_simp
        go_at_call 68
        refine HSL2.out.mono ?_
        rintro e wn ⟨_,rfl,bn,rfl,a9,c9,hls,hA1,hA2,-⟩
        have WC:=qH (WC.out.keepC (hA2 _ WC.out.lt NB5.out (fun he=>NE5.out (own_any.trans he))))
        have WC14:=qH (WC14.out.keepC (hA2 _ WC14.out.lt NB7.out (fun he=>NE7.out (own_any.trans he))))
        try have RA:=qH (RA.out.keepB (hA2 _ RA.out.lt (NBA.out) (fun he=>NEA.out (own_any.trans he))))
        have WL9:=qH hls
        have FR:Hid (∀ g,g < w8.heap.size→Pg w1.heap.size a7 g→wn.heap[g]?=w8.heap[g]?):=(fun g hg hp=>(hA2 g (Nat.lt_of_lt_of_le hg WZ.out) (by have:=hp.1;omega) (fun he=>hp.2 (own_any.trans he))).trans (FR.out g hg hp))
        have FQ:Hid (∀ g,g < w8.heap.size→Pg w1.heap.size a7 g→Pg w1.heap.size a9 g):=(fun g hg hp=>⟨hp.1,fun he=>(hA1 g (own_any.trans he)).elim (fun h=>hp.2 (own_any.trans h)) (fun h=>by have:=WZ.out;omega)⟩)
        have WX:Hid (Ext w1 wn):=Below.trans WX.out bn
        have WL:=WL9
        have WZ:Hid (w8.heap.size≤wn.heap.size):=Nat.le_trans WZ.out (Below.size bn)
        clear hls hA1 hA2
        go_wp2_with fail
        refine hK.out _ _ WC.out.c4 (fun hHeld=>?_)
        clear hK K
        try simp only [jP,jJ]
        refine rdH 6 kR rfl (fun K hK=>?_)
        go_simp
        refine hK.out _ _ ((WC.out.ext (Ext.alloc _ _)).c4) (fun hHeld=>?_)
        refine gen_world (P:=wpAnyH _ _ _ _ _ _ _ _) _ (fun wm hwm=>?_)
        rw [← hwm] at hHeld
        have RA:Hid (Rt wm wn.heap.size 3 29):=(by rw [hwm];exact qH (Rt.new wn [_,_,_] _))
        have bn:Ext wn wm:=(by rw [hwm];exact Ext.alloc _ _)
        obtain ⟨BA,hBA⟩:∃ BA,wn.heap.size=BA:=⟨_,rfl⟩
        rw [hBA] at RA ⊢
        have NBA:Hid (BA≠w1.heap.size):=(by have:=WZ.out;have:=SZ78.out;exact qH oM)
        have NEA:Hid ((Value.slice a7 0 0).ownBlock≠some BA):=(fun he=>by have:=ROW7.out BA he;have:=WZ.out;have:=SZ78.out;omega)
        have NCA:Hid (BA≠w5.heap.size∧BA≠w7.heap.size∧w1.heap.size < BA∧w8.heap.size≤BA):=(by have:=WZ.out;have:=SZ78.out;exact qH ⟨by omega,by omega,by omega,by omega⟩)
        clear hBA hwm
        obtain ⟨wn,hwn⟩:∃ W:World,W=wm:=⟨_,rfl⟩
        subst hwn
        have WC:=qH (WC.out.ext bn)
        have WC14:=qH (WC14.out.ext bn)
        have WL:=qH (WL.out.ext bn)
        have FR:Hid (∀ g,g < w8.heap.size→Pg w1.heap.size a7 g→wn.heap[g]?=w8.heap[g]?):=(fun g hg hp=>(bn.block g (Nat.lt_of_lt_of_le hg WZ.out)).trans (FR.out g hg hp))
        have WX:=qH (eT WX.out bn)
        have WZ:Hid (w8.heap.size≤wn.heap.size):=Nat.le_trans WZ.out (Below.size bn)
        try have WE:=qH (WE.out.ext bn)
        try have OQ:=qH (OQ.out.ext bn)
        try have OE2:=qH (OE2.out.ext bn)
        clear hK K
        try simp only [jP,jJ]
        refine rdH 7 kR rfl (fun K hK=>?_)
        obtain ⟨_,_,_,r0,r1,r2,i0,i1,i2⟩:=RA.out.rm.c3
        go_simp
        refine hK.out _ _ ((WC.out.keepC (putL_block BA (Ne.symm NCA.out.1) [_,_,_] _ 0)).c4) (fun hHeld=>?_)
        clear hK K
        try simp only [jP,jJ]
        refine dnH kR ?_
        go_wp2_with fail
        go_meet
        have hbm:w1.heap.size≠BA:=by have:=NCA.out.2.2.1;omega
        have hfs:FsP w1.heap.size w1.heap.size a9 (Att.putL wn BA 0 [.int .i64 1,.int .i64 L1.length,.slice none 0 0]) (.slice af j cf) F:=F8.out.moved (fun g hg hp=>by
         have hgb:g≠BA:=by have:=NCA.out.2.2.2;omega
         exact (putL_block BA hgb _ _ _).trans (FR.out g hg hp)) FQ.out
        exact ⟨BA,a9,c9,_,rfl,putL_below (Nat.le_of_lt NCA.out.2.2.1) [_,_,_] 0 WX.out,WL.out.putF RA.out hbm [_,_,_],hfs,HSZ2.out,WC14.out.keepC (putL_block BA (Ne.symm NCA.out.2.1) [_,_,_] _ 0),(RA.out.putL_at [_,_,_] rfl).1⟩
       skip
       go_simp
       refine hK.out _ _ ((WC.out.ext (Ext.alloc _ _)).c4) (fun hHeld=>?_)
       refine gen_world (P:=wpAnyH _ _ _ _ _ _ _ _) _ (fun wm hwm=>?_)
       rw [← hwm] at hHeld
       have RA:Hid (Rt wm wn.heap.size 3 29):=(by rw [hwm];exact qH (Rt.new wn [_,_,_] _))
       have bn:Ext wn wm:=(by rw [hwm];exact Ext.alloc _ _)
       obtain ⟨BA,hBA⟩:∃ BA,wn.heap.size=BA:=⟨_,rfl⟩
       rw [hBA] at RA ⊢
       have NBA:Hid (BA≠w1.heap.size):=(by have:=WZ.out;have:=SZ78.out;exact qH oM)
       have NEA:Hid ((Value.slice a7 0 0).ownBlock≠some BA):=(fun he=>by have:=ROW7.out BA he;have:=WZ.out;have:=SZ78.out;omega)
       have NCA:Hid (BA≠w5.heap.size∧BA≠w7.heap.size∧w1.heap.size < BA∧w8.heap.size≤BA):=(by have:=WZ.out;have:=SZ78.out;exact qH ⟨by omega,by omega,by omega,by omega⟩)
       clear hBA hwm
       obtain ⟨wn,hwn⟩:∃ W:World,W=wm:=⟨_,rfl⟩
       subst hwn
       have WC:=qH (WC.out.ext bn)
       have WC14:=qH (WC14.out.ext bn)
       have WL:=qH (WL.out.ext bn)
       have FR:Hid (∀ g,g < w8.heap.size→Pg w1.heap.size a7 g→wn.heap[g]?=w8.heap[g]?):=(fun g hg hp=>(bn.block g (Nat.lt_of_lt_of_le hg WZ.out)).trans (FR.out g hg hp))
       have WX:=qH (eT WX.out bn)
       have WZ:Hid (w8.heap.size≤wn.heap.size):=Nat.le_trans WZ.out (Below.size bn)
       try have WE:=qH (WE.out.ext bn)
       try have OQ:=qH (OQ.out.ext bn)
       try have OE2:=qH (OE2.out.ext bn)
       clear hK K
       try simp only [jP,jJ]
       refine rdH 5 kR rfl (fun K hK=>?_)
       have HAE2:OwnA wn (.agg #[.slice ya (List.length l2) yk,.bool ys,.slice yb ym yd,.slice yb' ym' yd',.int .i64 1]) ((l2,c2),1):=⟨_,_,_,_,rfl,OE2.out⟩
       have HSL2:=qH (slit_any WL.out HAE2 (Nat.le_refl _) HL1.out)
       go_simp
       go_at_call 68
       refine HSL2.out.mono ?_
       rintro e wn ⟨_,rfl,bn,rfl,a9,c9,hls,hA1,hA2,-⟩
       have WC:=qH (WC.out.keepC (hA2 _ WC.out.lt NB5.out (fun he=>NE5.out (own_any.trans he))))
       have WC14:=qH (WC14.out.keepC (hA2 _ WC14.out.lt NB7.out (fun he=>NE7.out (own_any.trans he))))
       try have RA:=qH (RA.out.keepB (hA2 _ RA.out.lt (NBA.out) (fun he=>NEA.out (own_any.trans he))))
       have WL9:=qH hls
       have FR:Hid (∀ g,g < w8.heap.size→Pg w1.heap.size a7 g→wn.heap[g]?=w8.heap[g]?):=(fun g hg hp=>(hA2 g (Nat.lt_of_lt_of_le hg WZ.out) (by have:=hp.1;omega) (fun he=>hp.2 (own_any.trans he))).trans (FR.out g hg hp))
       have FQ:Hid (∀ g,g < w8.heap.size→Pg w1.heap.size a7 g→Pg w1.heap.size a9 g):=(fun g hg hp=>⟨hp.1,fun he=>(hA1 g (own_any.trans he)).elim (fun h=>hp.2 (own_any.trans h)) (fun h=>by have:=WZ.out;omega)⟩)
       have WX:Hid (Ext w1 wn):=Below.trans WX.out bn
       have WL:=WL9
       have WZ:Hid (w8.heap.size≤wn.heap.size):=Nat.le_trans WZ.out (Below.size bn)
       clear hls hA1 hA2
       go_wp2_with fail
       refine hK.out _ _ WC.out.c4 (fun hHeld=>?_)
       clear hK K
       try simp only [jP,jJ]
       refine rdH 7 kR rfl (fun K hK=>?_)
       obtain ⟨_,_,_,r0,r1,r2,i0,i1,i2⟩:=RA.out.rm.c3
       go_simp
       refine hK.out _ _ ((WC.out.keepC (putL_block BA (Ne.symm NCA.out.1) [_,_,_] _ 0)).c4) (fun hHeld=>?_)
       clear hK K
       try simp only [jP,jJ]
       refine dnH kR ?_
       go_wp2_with fail
       go_meet
       have hbm:w1.heap.size≠BA:=by have:=NCA.out.2.2.1;omega
       have hfs:FsP w1.heap.size w1.heap.size a9 (Att.putL wn BA 0 [.int .i64 1,.int .i64 L1.length,.slice none 0 0]) (.slice af j cf) F:=F8.out.moved (fun g hg hp=>by
        have hgb:g≠BA:=by have:=NCA.out.2.2.2;omega
        exact (putL_block BA hgb _ _ _).trans (FR.out g hg hp)) FQ.out
       exact ⟨BA,a9,c9,_,rfl,putL_below (Nat.le_of_lt NCA.out.2.2.1) [_,_,_] 0 WX.out,WL.out.putF RA.out hbm [_,_,_],hfs,HSZ2.out,WC14.out.keepC (putL_block BA (Ne.symm NCA.out.2.1) [_,_,_] _ 0),(RA.out.putL_at [_,_,_] rfl).1⟩
      skip
      go_simp
      refine hK.out _ _ ((WC.out.ext (Ext.alloc _ _)).c4) (fun hHeld=>?_)
      refine gen_world (P:=wpAnyH _ _ _ _ _ _ _ _) _ (fun wm hwm=>?_)
      rw [← hwm] at hHeld
      have RA:Hid (Rt wm wn.heap.size 3 29):=(by rw [hwm];exact qH (Rt.new wn [_,_,_] _))
      have bn:Ext wn wm:=(by rw [hwm];exact Ext.alloc _ _)
      obtain ⟨BA,hBA⟩:∃ BA,wn.heap.size=BA:=⟨_,rfl⟩
      rw [hBA] at RA ⊢
      have NBA:Hid (BA≠w1.heap.size):=(by have:=WZ.out;have:=SZ78.out;exact qH oM)
      have NEA:Hid ((Value.slice a7 0 0).ownBlock≠some BA):=(fun he=>by have:=ROW7.out BA he;have:=WZ.out;have:=SZ78.out;omega)
      have NCA:Hid (BA≠w5.heap.size∧BA≠w7.heap.size∧w1.heap.size < BA∧w8.heap.size≤BA):=(by have:=WZ.out;have:=SZ78.out;exact qH ⟨by omega,by omega,by omega,by omega⟩)
      clear hBA hwm
      obtain ⟨wn,hwn⟩:∃ W:World,W=wm:=⟨_,rfl⟩
      subst hwn
      have WC:=qH (WC.out.ext bn)
      have WC14:=qH (WC14.out.ext bn)
      have WL:=qH (WL.out.ext bn)
      have FR:Hid (∀ g,g < w8.heap.size→Pg w1.heap.size a7 g→wn.heap[g]?=w8.heap[g]?):=(fun g hg hp=>(bn.block g (Nat.lt_of_lt_of_le hg WZ.out)).trans (FR.out g hg hp))
      have WX:=qH (eT WX.out bn)
      have WZ:Hid (w8.heap.size≤wn.heap.size):=Nat.le_trans WZ.out (Below.size bn)
      try have WE:=qH (WE.out.ext bn)
      try have OQ:=qH (OQ.out.ext bn)
      try have OE2:=qH (OE2.out.ext bn)
      clear hK K
      try simp only [jP,jJ]
      refine rdH 3 kR rfl (fun K hK=>?_)
      go_simp
      go_at_call 70
      refine (HSCL.out _ _ _ OQ.out WE.out.rd).mono ?_
      rintro e wn ⟨v39,rfl,bn,l2,hz2,ho2⟩
      obtain ⟨ya,yk,ys,yb,ym,yd,yb',ym',yd',rfl,-,-,OE2⟩:=ho2.op
      have HSZ2:=qH hz2
      clear ho2 hz2
      have WC:=qH (WC.out.ext bn)
      have WC14:=qH (WC14.out.ext bn)
      have WL:=qH (WL.out.ext bn)
      have FR:Hid (∀ g,g < w8.heap.size→Pg w1.heap.size a7 g→wn.heap[g]?=w8.heap[g]?):=(fun g hg hp=>(bn.block g (Nat.lt_of_lt_of_le hg WZ.out)).trans (FR.out g hg hp))
      have WX:=qH (eT WX.out bn)
      have WZ:Hid (w8.heap.size≤wn.heap.size):=Nat.le_trans WZ.out (Below.size bn)
      try have RA:=qH (RA.out.ext bn)
      go_wp2_with fail
      refine hK.out _ _ WC.out.c4 (fun hHeld=>?_)
      clear hK K
      try simp only [jP,jJ]
      refine tkH 4 hHeld ?_
      simp only [jP,jJ]
      refine rdH 5 kR rfl (fun K hK=>?_)
      have HAE2:OwnA wn (.agg #[.slice ya (List.length l2) yk,.bool ys,.slice yb ym yd,.slice yb' ym' yd',.int .i64 1]) ((l2,c2),1):=⟨_,_,_,_,rfl,OE2.out⟩
      have HSL2:=qH (slit_any WL.out HAE2 (Nat.le_refl _) HL1.out)
      go_simp
      go_at_call 68
      refine HSL2.out.mono ?_
      rintro e wn ⟨_,rfl,bn,rfl,a9,c9,hls,hA1,hA2,-⟩
      have WC:=qH (WC.out.keepC (hA2 _ WC.out.lt NB5.out (fun he=>NE5.out (own_any.trans he))))
      have WC14:=qH (WC14.out.keepC (hA2 _ WC14.out.lt NB7.out (fun he=>NE7.out (own_any.trans he))))
      try have RA:=qH (RA.out.keepB (hA2 _ RA.out.lt (NBA.out) (fun he=>NEA.out (own_any.trans he))))
      have WL9:=qH hls
      have FR:Hid (∀ g,g < w8.heap.size→Pg w1.heap.size a7 g→wn.heap[g]?=w8.heap[g]?):=(fun g hg hp=>(hA2 g (Nat.lt_of_lt_of_le hg WZ.out) (by have:=hp.1;omega) (fun he=>hp.2 (own_any.trans he))).trans (FR.out g hg hp))
      have FQ:Hid (∀ g,g < w8.heap.size→Pg w1.heap.size a7 g→Pg w1.heap.size a9 g):=(fun g hg hp=>⟨hp.1,fun he=>(hA1 g (own_any.trans he)).elim (fun h=>hp.2 (own_any.trans h)) (fun h=>by have:=WZ.out;omega)⟩)
      have WX:Hid (Ext w1 wn):=Below.trans WX.out bn
      have WL:=WL9
      have WZ:Hid (w8.heap.size≤wn.heap.size):=Nat.le_trans WZ.out (Below.size bn)
      clear hls hA1 hA2
      go_wp2_with fail
      refine hK.out _ _ WC.out.c4 (fun hHeld=>?_)
      clear hK K
      try simp only [jP,jJ]
      refine rdH 7 kR rfl (fun K hK=>?_)
      obtain ⟨_,_,_,r0,r1,r2,i0,i1,i2⟩:=RA.out.rm.c3
      go_simp
      refine hK.out _ _ ((WC.out.keepC (putL_block BA (Ne.symm NCA.out.1) [_,_,_] _ 0)).c4) (fun hHeld=>?_)
      clear hK K
      try simp only [jP,jJ]
      refine dnH kR ?_
      go_wp2_with fail
      go_meet
      have hbm:w1.heap.size≠BA:=by have:=NCA.out.2.2.1;omega
      have hfs:FsP w1.heap.size w1.heap.size a9 (Att.putL wn BA 0 [.int .i64 1,.int .i64 L1.length,.slice none 0 0]) (.slice af j cf) F:=F8.out.moved (fun g hg hp=>by
       have hgb:g≠BA:=by have:=NCA.out.2.2.2;omega
       exact (putL_block BA hgb _ _ _).trans (FR.out g hg hp)) FQ.out
      exact ⟨BA,a9,c9,_,rfl,putL_below (Nat.le_of_lt NCA.out.2.2.1) [_,_,_] 0 WX.out,WL.out.putF RA.out hbm [_,_,_],hfs,HSZ2.out,WC14.out.keepC (putL_block BA (Ne.symm NCA.out.2.1) [_,_,_] _ 0),(RA.out.putL_at [_,_,_] rfl).1⟩
     skip
     go_simp
     refine hK.out _ _ ((WC.out.ext (Ext.alloc _ _)).c4) (fun hHeld=>?_)
     refine gen_world (P:=wpAnyH _ _ _ _ _ _ _ _) _ (fun wm hwm=>?_)
     rw [← hwm] at hHeld
     have RA:Hid (Rt wm wn.heap.size 3 29):=(by rw [hwm];exact qH (Rt.new wn [_,_,_] _))
     have bn:Ext wn wm:=(by rw [hwm];exact Ext.alloc _ _)
     obtain ⟨BA,hBA⟩:∃ BA,wn.heap.size=BA:=⟨_,rfl⟩
     rw [hBA] at RA ⊢
     have NBA:Hid (BA≠w1.heap.size):=(by have:=WZ.out;have:=SZ78.out;exact qH oM)
     have NEA:Hid ((Value.slice a7 0 0).ownBlock≠some BA):=(fun he=>by have:=ROW7.out BA he;have:=WZ.out;have:=SZ78.out;omega)
     have NCA:Hid (BA≠w5.heap.size∧BA≠w7.heap.size∧w1.heap.size < BA∧w8.heap.size≤BA):=(by have:=WZ.out;have:=SZ78.out;exact qH ⟨by omega,by omega,by omega,by omega⟩)
     clear hBA hwm
     obtain ⟨wn,hwn⟩:∃ W:World,W=wm:=⟨_,rfl⟩
     subst hwn
     have WC:=qH (WC.out.ext bn)
     have WC14:=qH (WC14.out.ext bn)
     have WL:=qH (WL.out.ext bn)
     have FR:Hid (∀ g,g < w8.heap.size→Pg w1.heap.size a7 g→wn.heap[g]?=w8.heap[g]?):=(fun g hg hp=>(bn.block g (Nat.lt_of_lt_of_le hg WZ.out)).trans (FR.out g hg hp))
     have WX:=qH (eT WX.out bn)
     have WZ:Hid (w8.heap.size≤wn.heap.size):=Nat.le_trans WZ.out (Below.size bn)
     try have WE:=qH (WE.out.ext bn)
     try have OQ:=qH (OQ.out.ext bn)
     try have OE2:=qH (OE2.out.ext bn)
     clear hK K
     try simp only [jP,jJ]
     refine rdH 1 kR rfl (fun K hK=>?_)
     go_simp
     go_at_call 5
     refine (HRI.out _).mono ?_
     rintro e wn ⟨v37,rfl,bn,oq⟩
     obtain ⟨s37,a37,l37,k37,b37,m37,d37,rfl,OQ⟩:=oq.op
     clear oq
     have WE:=qH (WE.out.ext bn)
     have WC:=qH (WC.out.ext bn)
     have WC14:=qH (WC14.out.ext bn)
     have WL:=qH (WL.out.ext bn)
     have FR:Hid (∀ g,g < w8.heap.size→Pg w1.heap.size a7 g→wn.heap[g]?=w8.heap[g]?):=(fun g hg hp=>(bn.block g (Nat.lt_of_lt_of_le hg WZ.out)).trans (FR.out g hg hp))
     have WX:=qH (eT WX.out bn)
     have WZ:Hid (w8.heap.size≤wn.heap.size):=Nat.le_trans WZ.out (Below.size bn)
     try have RA:=qH (RA.out.ext bn)
     go_wp2_with fail
     refine hK.out _ _ WC.out.c4 (fun hHeld=>?_)
     clear hK K
     try simp only [jP,jJ]
     refine rdH 3 kR rfl (fun K hK=>?_)
     go_simp
     go_at_call 70
     refine (HSCL.out _ _ _ OQ.out WE.out.rd).mono ?_
     rintro e wn ⟨v39,rfl,bn,l2,hz2,ho2⟩
     obtain ⟨ya,yk,ys,yb,ym,yd,yb',ym',yd',rfl,-,-,OE2⟩:=ho2.op
     have HSZ2:=qH hz2
     clear ho2 hz2
     have WC:=qH (WC.out.ext bn)
     have WC14:=qH (WC14.out.ext bn)
     have WL:=qH (WL.out.ext bn)
     have FR:Hid (∀ g,g < w8.heap.size→Pg w1.heap.size a7 g→wn.heap[g]?=w8.heap[g]?):=(fun g hg hp=>(bn.block g (Nat.lt_of_lt_of_le hg WZ.out)).trans (FR.out g hg hp))
     have WX:=qH (eT WX.out bn)
     have WZ:Hid (w8.heap.size≤wn.heap.size):=Nat.le_trans WZ.out (Below.size bn)
     try have RA:=qH (RA.out.ext bn)
     go_wp2_with fail
     refine hK.out _ _ WC.out.c4 (fun hHeld=>?_)
     clear hK K
     try simp only [jP,jJ]
     refine tkH 4 hHeld ?_
     simp only [jP,jJ]
     refine rdH 5 kR rfl (fun K hK=>?_)
     have HAE2:OwnA wn (.agg #[.slice ya (List.length l2) yk,.bool ys,.slice yb ym yd,.slice yb' ym' yd',.int .i64 1]) ((l2,c2),1):=⟨_,_,_,_,rfl,OE2.out⟩
     have HSL2:=qH (slit_any WL.out HAE2 (Nat.le_refl _) HL1.out)
     go_simp
     go_at_call 68
     refine HSL2.out.mono ?_
     rintro e wn ⟨_,rfl,bn,rfl,a9,c9,hls,hA1,hA2,-⟩
     have WC:=qH (WC.out.keepC (hA2 _ WC.out.lt NB5.out (fun he=>NE5.out (own_any.trans he))))
     have WC14:=qH (WC14.out.keepC (hA2 _ WC14.out.lt NB7.out (fun he=>NE7.out (own_any.trans he))))
     try have RA:=qH (RA.out.keepB (hA2 _ RA.out.lt (NBA.out) (fun he=>NEA.out (own_any.trans he))))
     have WL9:=qH hls
     have FR:Hid (∀ g,g < w8.heap.size→Pg w1.heap.size a7 g→wn.heap[g]?=w8.heap[g]?):=(fun g hg hp=>(hA2 g (Nat.lt_of_lt_of_le hg WZ.out) (by have:=hp.1;omega) (fun he=>hp.2 (own_any.trans he))).trans (FR.out g hg hp))
     have FQ:Hid (∀ g,g < w8.heap.size→Pg w1.heap.size a7 g→Pg w1.heap.size a9 g):=(fun g hg hp=>⟨hp.1,fun he=>(hA1 g (own_any.trans he)).elim (fun h=>hp.2 (own_any.trans h)) (fun h=>by have:=WZ.out;omega)⟩)
     have WX:Hid (Ext w1 wn):=Below.trans WX.out bn
     have WL:=WL9
     have WZ:Hid (w8.heap.size≤wn.heap.size):=Nat.le_trans WZ.out (Below.size bn)
     clear hls hA1 hA2
     go_wp2_with fail
     refine hK.out _ _ WC.out.c4 (fun hHeld=>?_)
     clear hK K
     try simp only [jP,jJ]
     refine rdH 7 kR rfl (fun K hK=>?_)
     obtain ⟨_,_,_,r0,r1,r2,i0,i1,i2⟩:=RA.out.rm.c3
     go_simp
     refine hK.out _ _ ((WC.out.keepC (putL_block BA (Ne.symm NCA.out.1) [_,_,_] _ 0)).c4) (fun hHeld=>?_)
     clear hK K
     try simp only [jP,jJ]
     refine dnH kR ?_
     go_wp2_with fail
     go_meet
     have hbm:w1.heap.size≠BA:=by have:=NCA.out.2.2.1;omega
     have hfs:FsP w1.heap.size w1.heap.size a9 (Att.putL wn BA 0 [.int .i64 1,.int .i64 L1.length,.slice none 0 0]) (.slice af j cf) F:=F8.out.moved (fun g hg hp=>by
      have hgb:g≠BA:=by have:=NCA.out.2.2.2;omega
      exact (putL_block BA hgb _ _ _).trans (FR.out g hg hp)) FQ.out
     exact ⟨BA,a9,c9,_,rfl,putL_below (Nat.le_of_lt NCA.out.2.2.1) [_,_,_] 0 WX.out,WL.out.putF RA.out hbm [_,_,_],hfs,HSZ2.out,WC14.out.keepC (putL_block BA (Ne.symm NCA.out.2.1) [_,_,_] _ 0),(RA.out.putL_at [_,_,_] rfl).1⟩
    case rest=>
     obtain ⟨BA,a9,c9,p2,rfl,hX9,hL9,hF9,hZ9,hC14,hC15⟩:=hcut
     obtain ⟨w9,hw9⟩:∃ w0:World,w0=wc:=⟨_,rfl⟩
     subst hw9
     obtain ⟨L2,hL2⟩:∃ L2,L1 ++ [p2]=L2:=⟨_,rfl⟩
     obtain ⟨n1,hn1⟩:∃ n1,L1.length=n1:=⟨_,rfl⟩
     obtain ⟨F2,hF2⟩:∃ F2,F ++ [andF (L.length:Int) (n1:Int)]=F2:=⟨_,rfl⟩
     rw [hn1] at hC15
     have HP8:Hid (F2.length=j+1∧L2.length≤2*(j+1)∧(∀ a∈L2,SzA a)∧∀ g∈F2,frmF g L2.length=true∧szF g≤3):=by
      obtain ⟨q1,q2,q3,q4⟩:=hP.out
      have hle1:L1.length=L.length+1:=by rw [← HLE1.out,List.length_append];rfl
      have hle:L2.length=L.length+2:=by rw [← hL2,List.length_append,hle1];rfl
      refine qH ⟨by rw [← hF2,List.length_append,q1];rfl,by omega,fun a ha=>?_,fun g hg=>?_⟩
      ·rw [← hL2,← HLE1.out] at ha
       rcases List.mem_append.1 ha with ha | ha
       ·rcases List.mem_append.1 ha with ha | ha
        ·exact q3 a ha
        rw [List.mem_singleton.1 ha]
        exact ⟨HSL.out.1,fun t ht=>(HSL.out.2 t ht).le dC,HCZ.out.le dC⟩
       rw [List.mem_singleton.1 ha];exact hZ9.out
      rw [← hF2] at hg
      rcases List.mem_append.1 hg with hg | hg
      ·exact ⟨frmF_mono oM g (q4 g hg).1,(q4 g hg).2⟩
      rw [List.mem_singleton.1 hg]
      exact ⟨andF_frm oM oM oM oM,by rw [andF_sz];decide⟩
     rw [hL2] at hL9
     have HFE:=qH hF2
     have HFL:Hid (F.length < 20):=by have:=hP.out.1;have:=HJN.out;exact qH oM
     have SZ9:Hid (w1.heap.size < w9.heap.size∧(∀ g,(Value.slice a9 0 0).ownBlock=some g→g < w9.heap.size)∧∀ g,(Value.slice af j cf).ownBlock=some g→g < w9.heap.size):=⟨hL9.out.2.1.lt,fun g hg=>(OwnRow.lt hL9.out.2.2 g (own_any.trans hg)).2,fun g hg=>(GrF.lt hF9.out.1 g hg).2⟩
     have HNB:Hid ((Value.slice af j cf).ownBlock≠some w1.heap.size):=fun he=>Nat.lt_irrefl _ (hF9.out.2 _ he).1
     have HAND:Hid (∀ g7 w10,w9.heap.size≤g7→OwnRow 3 (RdFs (fun g=>Pg w1.heap.size a9 g∧(Value.slice af j cf).ownBlock≠some g) 1) 29 0 w10 (.slice (some ⟨g7,0,none⟩) 2 2) [litF L.length,litF n1]→RdFs (fun g=>Pg w1.heap.size a9 g∧(Value.slice af j cf).ownBlock≠some g) 2 w10 (.agg #[.int .i64 3,.int .i64 0,.slice (some ⟨g7,0,none⟩) 2 2]) (andF L.length n1)):=fun g7 w10 hg7 hl=>⟨_,rfl,fun g hg _=>by
      have he:g7=g:=by simpa [Value.ownBlock] using hg
      subst he
      have hs:=SZ9.out
      exact ⟨⟨by omega,fun h=>by have:=hs.2.1 _ h;omega⟩,fun h=>by have:=hs.2.2 _ h;omega⟩,hl.rd⟩
     clear hL2 hF2 hZ9 hn1
     obtain ⟨u0,u1,u2⟩:=hC14.out.c3
     obtain ⟨q0,q1,q2⟩:=hC15.out.c3
     go_wp2_with (first | (refine build2W etFp rF rF (T:=RdFs (fun g=>Pg w1.heap.size a9 g∧(Value.slice af j cf).ownBlock≠some g) 1) (fun h x=>RdFs.ext h x) rF rF [.int .i64 1,.int .i64 L.length,.slice none 0 0] [.int .i64 1,.int .i64 n1,.slice none 0 0] (fill_f2 ..) rfl rfl dC (y:=litF L.length) (y':=litF n1) litF_rd litF_rd ?_;intro g7 w10 x10 h10 l10;have HAN:=HAND.out g7 w10 h10 l10) | (refine build1W etFp rF rF (T:=RdFs (fun g=>Pg w1.heap.size a9 g∧(Value.slice af j cf).ownBlock≠some g) 2) (fun h x=>RdFs.ext h x) rF [.int .i64 3,.int .i64 0,.slice (some ⟨g7,0,none⟩) 2 2] (fill_f1 ..) rfl dC (y:=andF L.length n1) HAN ?_;intro g8 w11 x11 _ l11;have x911:=eT x10 x11;refine append_GrFL etFp rF _ _ rF rF (hF9.out.1.ext x911) rF l11.rd (by have:=HFL.out;omega) (by have:=HFL.out;unfold maxLen;omega) (Nat.le_trans (Nat.le_of_lt SZ9.out.1) (Below.size x911)) ?_;intro v12 w12 o12 b12 g12 hw12;have L12:Hid (LsP w1.heap.size w1.heap.size a9 c9 w12 L2):=(by obtain ⟨nn,xx,hown⟩:=OwnRow.own (hF9.out.1.ext x911);exact LsP.grow (hL9.out.ext x911) HNB.out hown g12);have F12:Hid (FsP w1.heap.size w1.heap.size a9 w12 v12 F2):=(by rw [← HFE.out];exact FsP.app (hF9.out.ext x911) o12 hw12 (Nat.lt_of_lt_of_le SZ9.out.1 (Below.size x911)) fun g hg=>Nat.lt_of_lt_of_le (SZ9.out.2.1 g hg) (Below.size x911));have X12:=qH (Below.trans (eT hX9.out x911) b12);obtain ⟨a13,k13,he13,-⟩:=GrF.shape F12.out.1;rw [HP8.out.1] at he13;subst he13))
     go_roundw
     case rel=>exact ⟨j+1,a13,k13,a9,c9,L2,F2,by go_num,rfl,by omega,X12.out,L12.out,F12.out,HP8.out⟩
     simp [intOf]<;>omega
   have hop:(op == 3)=false:=beq_eq_false_iff_ne.2 h3
   have HAE:Hid (OwnA w6 (.agg #[.slice xa (List.length l') xk,.bool xs,.slice xb xm xd,.slice xb' xm' xd',.int .i64 op]) ((l',cc),op)):=⟨_,_,_,_,rfl,HE6.out⟩
   have HSLT:=qH (slit_any L6.out HAE.out (Nat.le_refl _) (by have:=hP.out;have:=HJN.out;omega))
   rw [hxl] at q0 HSLT
   clear h3 HAE
   go_wp2_with fail
   refine HSLT.out.mono ?_
   rintro e w7 ⟨_,rfl,b7,rfl,a7,c7,hls,hA1,hA2,hA3⟩
   have L7:=qH hls
   have F7:=qH (F6.out.slit hA1 hA2)
   have X7:Hid (Ext w1 w7):=Below.trans X6.out b7
   obtain ⟨L8,hL8⟩:∃ L8,L ++ [((l',cc),op)]=L8:=⟨_,rfl⟩
   obtain ⟨F8,hF8⟩:∃ F8,F ++ [litF (L.length:Int)]=F8:=⟨_,rfl⟩
   have HP8:Hid (F8.length=j+1∧L8.length≤2*(j+1)∧(∀ a∈L8,SzA a)∧∀ g∈F8,frmF g L8.length=true∧szF g≤3):=by
    obtain ⟨p1,p2,p3,p4⟩:=hP.out
    have hle:L8.length=L.length+1:=by rw [← hL8,List.length_append];rfl
    refine qH ⟨by rw [← hF8,List.length_append,p1];rfl,by omega,fun a ha=>?_,fun g hg=>?_⟩
    ·rw [← hL8] at ha
     rcases List.mem_append.1 ha with ha | ha
     ·exact p3 a ha
     rw [List.mem_singleton.1 ha]
     exact ⟨HSL.out.1,fun t ht=>(HSL.out.2 t ht).le dC,HCZ.out.le dC⟩
    rw [← hF8] at hg
    rcases List.mem_append.1 hg with hg | hg
    ·exact ⟨frmF_mono oM g (p4 g hg).1,(p4 g hg).2⟩
    rw [List.mem_singleton.1 hg]
    exact ⟨litF_frm oM oM,by rw [litF_sz];decide⟩
   rw [hL8] at L7
   have HFE:=qH hF8
   have HFL:Hid (F.length < 20):=by have:=hP.out.1;have:=HJN.out;exact qH oM
   have SZ7:Hid (w1.heap.size < w7.heap.size∧∀ g,(Value.slice a7 0 0).ownBlock=some g→g < w7.heap.size):=⟨L7.out.2.1.lt,fun g hg=>(OwnRow.lt L7.out.2.2 g (own_any.trans hg)).2⟩
   have HNB:Hid ((Value.slice af j cf).ownBlock≠some w1.heap.size):=fun he=>Nat.lt_irrefl _ (F7.out.2 _ he).1
   clear hls hA1 hA2 hA3 hL8 hF8 HSLT u0 u1 u2 u3 u4 q0 q1 q2 q3 hop b7 F6 L6
   have hnl:=hP.out.1
   go_wp2_with (refine build1W etFp rF rF (T:=RdFs (fun g=>Pg w1.heap.size a7 g∧(Value.slice af j cf).ownBlock≠some g) 2) (fun h x=>RdFs.ext h x) rF [.int .i64 1,.int .i64 L.length,.slice none 0 0] (fill_f1 ..) rfl dC (y:=litF L.length) (litF_rd.succ) ?_;intro g8 w8 x8 _ l8;refine append_GrFL etFp rF _ _ rF rF (F7.out.1.ext x8) rF l8.rd (by have:=HFL.out;omega) (by have:=HFL.out;unfold maxLen;omega) (Nat.le_trans (Nat.le_of_lt SZ7.out.1) (Below.size x8)) ?_;intro v9 w9 o9 b9 g9 hw9;have L9:Hid (LsP w1.heap.size w1.heap.size a7 c7 w9 L8):=(by obtain ⟨nn,xx,hown⟩:=OwnRow.own (F7.out.1.ext x8);exact LsP.grow (L7.out.ext x8) HNB.out hown g9);have F9:Hid (FsP w1.heap.size w1.heap.size a7 w9 v9 F8):=(by rw [← HFE.out];exact FsP.app (F7.out.ext x8) o9 hw9 (Nat.lt_of_lt_of_le SZ7.out.1 (Below.size x8)) fun g hg=>Nat.lt_of_lt_of_le (SZ7.out.2 g hg) (Below.size x8));have X9:=qH (Below.trans (eT X7.out x8) b9);obtain ⟨a11,k11,he9,-⟩:=GrF.shape F9.out.1;rw [HP8.out.1] at he9;subst he9)
   go_roundw
   case rel=>exact ⟨j+1,a11,k11,a7,c7,L8,F8,by go_num,rfl,by omega,X9.out,L9.out,F9.out,HP8.out⟩
   simp [intOf]<;>omega
  obtain rfl:j=na:=by omega
  have hd:=dF ((j:Int) < (j:Int))
  obtain ⟨w8,hw8⟩:∃ w0:World,w0=wo:=⟨_,rfl⟩
  subst hw8
  have C8:=qH (C1.out.ext hX.out)
  have CB:=qH hL.out.1
  have hfs:RdRow 3 (RdFs (fun g=>w1.heap.size < g∧g < w8.heap.size) 2) w8 (.slice af j cf) F:=hF.out.1.rds fun g hg hlt=>⟨hg.1,hlt⟩
  have HFS:=qH hfs
  have SZ8:Hid (w1.heap.size≤w8.heap.size∧w1.heap.size < w8.heap.size):=⟨Below.size hX.out,hL.out.2.1.lt⟩
  have HFL:Hid (F.length=j):=hP.out.1
  have HFX:Hid (∀ w',Ext w8 w'→Calls Tryz.prog 71 #[.agg #[.int .i64 fk,.int .i64 fa,.slice xf fn kf],.slice af j cf] w' (Gives w' fun v' w''=>∃ k,RdFs (fun g=>(w1.heap.size < g∧g < w8.heap.size)∨w'.heap.size≤g) k w'' v' (sbtF fm F))):=fun w' xx=>by
   obtain ⟨dp,hdp⟩:=HFM.out
   refine (put_go 2 w8.heap.size (fun g=>w1.heap.size < g∧g < w8.heap.size) (fun g hg=>hg.2) F dp (RdFn.ext hdp (eT (eT b1 hX.out) xx)) (HFS.out.ext RdFs.ext xx) (by rw [HFL.out];exact HFR.out) (by have:=HFZ.out;omega) (Below.size xx)).mono ?_
   rintro _ _ ⟨v,e,b,o⟩
   exact ⟨v,e,b,_,o⟩
  obtain ⟨f2,hf2⟩:∃ f2,sbtF fm F=f2:=⟨_,rfl⟩
  have HCK:Hid (chkF f2 L.length=0):=by
   have h1:∀ g∈F,szF g≤3:=fun g hg=>(hP.out.2.2.2 g hg).2
   have h2:∀ g∈F,frmF g L.length=true:=fun g hg=>(hP.out.2.2.2 g hg).1
   have h3:frmF fm F.length=true:=by rw [HFL.out];exact HFR.out
   have h4:=sbtF_sz h1 dC fm h3
   have h5:=sbtF_frm h2 fm h3
   rw [hf2] at h4 h5
   have h6:=HFZ.out
   have h7:=cnt_small f2 0 1 dC oM oM
   have h8:chkF f2 L.length=0:=by
    unfold chkF
    rw [if_neg (by rw [h7];omega),if_pos h5]
   exact qH h8
  rw [hf2] at HFX
  obtain ⟨nL,hnL⟩:∃ nL,L.length=nL:=⟨_,rfl⟩
  rw [hnL] at CB
  have HNL2:=qH hnL
  clear hf2 hnL hfs
  go_upto_region 14 with (fail)
  clear hd
  have hne14:w1.heap.size≠w.heap.size+1:=by have:=HS1.out;omega
  have hne15:w.heap.size≠w.heap.size+1:=by omega
  have b9:=drew_ext w8
  have XE:=b9
  refine wp_region_noPanic ?_
  refine wp_region_held_drew (S:=fun w'=>(w'.cell? ⟨w.heap.size,0,none⟩=some (.slice ab nb cb)∧w'.cell? ⟨w.heap.size,1,none⟩=some (.slice aa j ca)∧w'.cell? ⟨w.heap.size,2,none⟩=some (.int .i64 fk)∧w'.cell? ⟨w.heap.size,3,none⟩=some (.int .i64 fa)∧w'.cell? ⟨w.heap.size,4,none⟩=some (.slice xf fn kf))∧(w'.cell? ⟨w1.heap.size,0,none⟩=some (.slice al nL cl))) kR (⟨(C8.out.ext XE).c5,(CB.out.ext XE).c1⟩) (fun hHeld=>?_)
  refine tkH 0 hHeld ?_
  simp only [jP,jJ]
  refine tkH 1 hHeld ?_
  simp only [jP,jJ]
  refine tkH 2 hHeld ?_
  simp only [jP,jJ]
  refine tkH 4 hHeld ?_
  simp only [jP,jJ]
  refine rdH 3 kR rfl (fun K hK=>?_)
  go_simp
  go_at_call 71;refine (HFX.out _ XE).mono ?_;rintro e w10 ⟨v10,rfl,b10,o10⟩;have O10:=qH o10;clear o10;(first | have XE:=eT XE b10 | have XE:=eT (eT XE (Ext.alloc _ _)) b10);obtain ⟨kk,o10⟩:=O10.out;obtain ⟨ra,rk,rfl⟩:=o10.shape
  go_wp2_with fail
  refine hK.out _ _ (⟨(C8.out.ext XE).c5,(CB.out.ext XE).c1⟩) (fun hHeld=>?_)
  clear hK K
  try simp only [jP,jJ]
  obtain ⟨_,_,_,r0,r1,r2,i0,i1,i2⟩:=(R1.out.ext (eT hX.out XE)).rm.c3
  refine rdH 5 kR rfl (fun K hK=>?_)
  go_simp
  refine hK.out _ _ (⟨((C8.out.ext XE).keepC (putL_block (w.heap.size+1) hne15 [_,_,_] _ 0)).c5,((CB.out.ext XE).keepC (putL_block (w.heap.size+1) hne14 [_,_,_] _ 0)).c1⟩) (fun hHeld=>?_)
  clear hK K
  try simp only [jP,jJ]
  refine tkH 6 hHeld ?_
  simp only [jP,jJ]
  refine dnH kR ?_
  have RR:=qH (R1.out.ext (eT hX.out XE))
  have OR:=qH (hL.out.2.2.ext OwnAt.ext XE)
  go_wp2_with fail
  refine bodyPost_ret (v:=.tuple #[.agg #[.int .i64 f2.k,.int .i64 f2.a,.slice ra f2.sub.length rk],.slice al nL cl]) (by simp [results,Tryz.results44,go_sem,r0,r1,r2]) rfl ?_
  have hs1:=HS1.out
  have hs8:=SZ8.out.1
  have hne:∀ g,(Value.slice al L.length cl).ownBlock=some g→g≠w.heap.size+1:=fun g hg he=>by
   subst he
   exact (OR.out.ne_rt RR.out dC) hg
  have hfin:RdFs (fun g=>(w1.heap.size < g∧g < w8.heap.size)∨w8.heap.size≤g) kk (Att.putL w10 (w.heap.size+1) 0 [.int .i64 f2.k,.int .i64 f2.a,.slice ra f2.sub.length rk]) (.agg #[.int .i64 f2.k,.int .i64 f2.a,.slice ra f2.sub.length rk]) f2:=RdFs.keep (fun g hg _=>putL_block _ oM _ _ _) o10
  exact hR.out _ _ (Gives.mk (putL_below oM [_,_,_] 0 (eT b1 (eT hX.out XE))) ⟨_,f2,al,cl,L,by rw [HNL2.out],⟨kk,RdFs.to (fun g hg _=>by omega) hfin⟩,HCK.out,by have:=hP.out.2.1;have:=HNA.out;omega,hP.out.2.2.1,(OR.out.keepO (fun g hg=>putL_block _ (hne g hg) [_,_,_] _ 0) fun v x h=>OwnAt.putT h RR.out dC dC 0 [_,_,_]).mono oM⟩)
end Go.Proofs.YtmlhccajicmpfaaGreat
