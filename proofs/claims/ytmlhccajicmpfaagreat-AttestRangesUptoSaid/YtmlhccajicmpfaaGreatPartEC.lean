/- A group of texts: PRats16, PAtomL, PTold16, Arg, Frame -/
import Derived.Test.YtmlhccajicmpfaaGreatSq
import Derived.Test.YtmlhccajicmpfaaGreatPartBC
import Derived.Test.YtmlhccajicmpfaaGreatPartDJ
import Derived.Test.YtmlhccajicmpfaaGreatPartBJ
import Derived.Test.YtmlhccajicmpfaaGreatPTold15
import Derived.Test.YtmlhccajicmpfaaGreatPartEB
import Derived.Test.YtmlhccajicmpfaaGreatPartDH
import Derived.Test.YtmlhccajicmpfaaGreatPartCJ
import Derived.Test.YtmlhccajicmpfaaGreatPartBH
import Derived.Test.YtmlhccajicmpfaaGreatPartDG
import Derived.Test.YtmlhccajicmpfaaGreatPartDI
import Derived.Test.YtmlhccajicmpfaaGreatRows
import Derived.Test.YtmlhccajicmpfaaGreatPartAA
import Derived.ProofKit
import Derived.OpenShut
import Derived.JoinedCond
set_option maxHeartbeats 40000000
set_option maxRecDepth 100000
set_option linter.unusedSimpArgs false
namespace Go.Proofs.YtmlhccajicmpfaaGreat
open Go.RowKit Go.Att

theorem rats16_any {w:World} {v:Value} {l:List NN} (hv:RdRow 3 RdNp w v l) (hs:∀ p∈l,Nlt 1000000000 p):
  Calls Tryz.prog 9 #[v] w (Gives w fun v' w'=>OwnRow 3 (OwnQp 156) 38 w.heap.size w' v' ((l.take 40).map qN)):=by
 refine via fun R hR=>?_
 have HS:=qH hs
 obtain ⟨a,c,rfl,hlc,hcm⟩:=hv.shape
 have HV:=qH hv
 unfold maxLen at hcm
 clear hv hs
 go_enter Tryz.func9,Tryz.ntmps9
 go_wp2_with fail
 go_loopw [3,4] (fun o i wr=>∃ k:Nat,i=.int .i64 k∧k≤l.length∧k≤40∧Ext w wr∧Hid (OwnRow 3 (OwnQp 156) 38 w.heap.size wr o ((l.take k).map qN))) (fun _ i _=>40 - (intOf i).toNat)
 case atStart=>exact ⟨0,rfl,Nat.zero_le _,Nat.zero_le _,Ext.alloc _ _,by rw [List.take_zero];exact OwnRow.nilLit _ (Nat.le_refl _)⟩
 case round=>
  obtain ⟨k,rfl,hk,hk2,hx,hO⟩:=hrel
  have hsz:=hx.size
  by_cases hlt:k < l.length
  ·by_cases h34:k < 40
   ·obtain ⟨b,off,cs,rfl,hcl,hT,hc⟩:=HV.out.at dC k hlt
    obtain ⟨y,z,rfl⟩:=cells_N hT
    have e0:=Ext.cell hx (hc 0 dC)
    have e1:=Ext.cell hx (hc 1 dC)
    have e2:=Ext.cell hx (hc 2 dC)
    have HSN:=qH (take_map_snoc qN hlt)
    have HTT:=qH (RdNp.ext hT hx)
    have HSS:=qH (HS.out l[k] (List.getElem_mem hlt))
    simp only [List.getElem?_cons_zero,List.getElem?_cons_succ,Nat.add_zero] at e0 e1 e2
    generalize l[k]=p at*
    have HKL:Hid (((l.take k).map qN).length≤40):=by show _≤_;simp;omega
    clear hT hc
    go_wp2_with fail
    refine (of8_any HTT.out HSS.out.1 HSS.out.2).mono ?_
    rintro e w1 ⟨_,rfl,b1,o1⟩
    clear e0 e1 e2
    obtain ⟨s1,a1,l1,c1,a1',l1',c1',rfl,O1⟩:=o1.op
    have hO1:=qH (hO.out.ext OwnQ.ext b1)
    have b01:=hx.trans b1
    clear o1
    go_wp2_with (at_builtin;refine append_rowL (y:=qN p) etRats (kdQ (e:=156) dC) rF _ _ rF w.heap.size rF _ rF hO1.out rfl (O1.out.mono (Nat.zero_le _)) (Below.size b01) (by have:=HKL.out;omega) (by unfold maxLen;have:=HKL.out;omega) ?_;intro v9 w9 o9 b9 g9)
    go_roundw
    case rel=>
     refine ⟨k+1,by go_num,by omega,by omega,Below.trans b01 b9,?_⟩
     rw [HSN.out]
     exact o9
    simp [intOf]<;>omega
   obtain rfl:k=40:=by omega
   go_wp2_with fail
   exact hR.out _ _ (Gives.mk hx hO.out)
  obtain rfl:k=l.length:=by omega
  have HX:Hid ((l.take l.length).map qN=(l.take 40).map qN):=by show _=_;rw [List.take_length,List.take_of_length_le hk2]
  go_wp2_with fail
  exact hR.out _ _ (Gives.mk hx (by rw [← HX.out];exact hO.out))
open Go.RowKit Go.Att

theorem etBt:ElemT Tryz.prog 62 171 (.agg #[.slice none 0 0,.bool false,.slice none 0 0,.slice none 0 0,.int .i64 0]) 5 88:=ElemT.mk' Tryz.underlying62 kR rfl dC
theorem list9_any {w:World} {v:Value} {l:List AT} (hv:RdRow 5 OwnA w v l) (hs:∀ a∈l,Smx a.1.1 a.1.2) (hl:l.length≤1000):
  Calls Tryz.prog 57 #[v] w (Gives w fun v' w'=>OwnRow 5 OwnB9 171 w.heap.size w' v' l):=by
 refine via fun R hR=>?_
 have HS:=qH hs
 obtain ⟨a,c,rfl,hlc,hcm⟩:=hv.shape
 have HV:=qH hv
 unfold maxLen at hcm
 clear hv hs
 go_enter Tryz.func57,Tryz.ntmps57
 go_wp2_with fail
 go_loopw [3,9] (fun o i wr=>∃ k:Nat,i=.int .i64 k∧k≤l.length∧Ext w wr∧Hid (OwnRow 5 OwnB9 171 w.heap.size wr o (l.take k))) (fun _ i _=>l.length - (intOf i).toNat)
 case atStart=>exact ⟨0,rfl,Nat.zero_le _,Ext.alloc _ _,by rw [List.take_zero];exact OwnRow.nilLit _ (Nat.le_refl _)⟩
 case round=>
  obtain ⟨k,rfl,hk,hx,hO⟩:=hrel
  by_cases hlt:k < l.length
  ·have hd:=dT ((k:Int) < (l.length:Int))
   obtain ⟨bA,oA,xa,xk,xs,xb,xm,xd,xb',xm',xd',hae,hbo,hax⟩:=HV.out.atm k hlt
   subst hae
   obtain ⟨u0,u1,u2,u3,u4⟩:=(hbo.ext hx).c5
   have hJ1:IntKind.i64.wrap (k:Int)=(k:Int):=by rw [IntKind.wrap_i64];omega
   have hJ2:(0:Int)≤(k:Int)∧(k:Int) < (l.length:Int):=⟨by omega,by omega⟩
   have HTK:Hid (l.take (k+1)=l.take k ++ [l[k]]):=(List.take_append_getElem hlt).symm
   have HKL:Hid ((l.take k).length≤1000):=by show _≤_;rw [List.length_take];omega
   obtain ⟨w4,hw4,b4,c4,-,-⟩:=bx1 wr [.slice xa l[k].1.1.length xk,.bool xs,.slice xb xm xd,.slice xb' xm' xd',.int .i64 l[k].2] 144
   have HW:=qH hw4
   have C4:=qH c4
   have HTO:Hid (Calls Tryz.prog 92 #[.agg #[.slice xa l[k].1.1.length xk,.bool xs,.slice xb xm xd,.slice xb' xm' xd',.int .i64 l[k].2]] w4 (Gives w4 fun v' w'=>OwnB9 w' v' l[k])):=told9_any ⟨_,_,_,_,rfl,hax.ext (eT hx b4)⟩ (HS.out _ (List.getElem_mem hlt))
   clear hw4 c4 hbo hax
   generalize l[k].1.1.length=n1 at*
   generalize l[k].2=o1 at*
   generalize l[k]=q at*
   go_upto_region 5 with (fail)
   rw [← HW.out]
   clear HW u0 u1 u2 u3 u4
   obtain ⟨k0,k1,k2,k3,k4⟩:=C4.out.c5
   go_wp2_with fail
   refine HTO.out.mono ?_
   rintro e w5 ⟨_,rfl,b5,h1⟩
   clear k0 k1 k2 k3 k4
   obtain ⟨a2,kk2,s2,b2,m2,d2,b2',m2',d2',rfl,O1⟩:=h1.op
   have HQ1:=qH h1
   have b05:=hx.trans (b4.trans b5)
   have hO1:=qH (hO.out.ext OwnBt.ext (b4.trans b5))
   clear h1 hO
   go_wp2_with (at_builtin;refine append_rowL (y:=q) etBt (kdBt dC dC) rF _ _ rF w.heap.size rF _ rF hO1.out rfl HQ1.out (Below.size b05) (by have:=HKL.out;omega) (by unfold maxLen;have:=HKL.out;omega) ?_;intro v9 w9 o9 b9 g9)
   go_roundw
   case rel=>exact ⟨k+1,by go_num,by omega,Below.trans b05 b9,by rw [HTK.out];exact o9⟩
   simp [intOf]<;>omega
  obtain rfl:k=l.length:=by omega
  have hd:=dF ((l.length:Int) < (l.length:Int))
  rw [List.take_length] at hO
  obtain ⟨ao,ko,he,-,-⟩:=hO.out.rd.shape
  subst he
  go_wp2_with fail
  exact hR.out _ _ (Gives.mk hx hO.out)
end Go.Proofs.YtmlhccajicmpfaaGreat

namespace Go.Att
open Go.RowKit
def OwnPf {σ α:Type} (Z:Nat→Prop) (S:World→Value→σ→Prop) (A:World→Value→α→Prop) (s t:TypeId) (w:World) (v:Value) (p:Pr σ α):Prop:=
 ∃ a c a' c' x k n,v=.agg #[.slice a p.1.length c,.slice a' p.2.1.length c',.int .i64 p.2.2.k,.int .i64 p.2.2.a,.slice x p.2.2.sub.length k]∧OwnRow 6 S s 0 w (.slice a p.1.length c) p.1∧OwnRow 5 A t 0 w (.slice a' p.2.1.length c') p.2.1∧RdFs Z n w (.agg #[.int .i64 p.2.2.k,.int .i64 p.2.2.a,.slice x p.2.2.sub.length k]) p.2.2
section
variable {σ α:Type} {Z Z':Nat→Prop} {w w':World} {S S':World→Value→σ→Prop} {A A':World→Value→α→Prop} {s t:TypeId} {v:Value} {p:Pr σ α}
theorem OwnPf.rd (h:OwnPf Z S A s t w v p) (hS:∀ v a,S w v a→S' w v a) (hA:∀ v a,A w v a→A' w v a):RdPr S' A' w v p:=by
 obtain ⟨a,c,a',c',y,k,n,rfl,h1,h2,h3⟩:=h
 exact ⟨a,c,a',c',_,rfl,RdRow.mono h1.rd hS,RdRow.mono h2.rd hA,n,h3.rd⟩
theorem OwnPf.putT {u:TypeId} {b m:Nat} (h:OwnPf Z S A s t w v p) (hc:Rt w b m u) (h1:s≠u) (h2:t≠u) (i:Nat) (cs:List Value) (hb:∀ g,Z g→g≠b) (hS:∀ v a,S w v a→S (Att.putL w b i cs) v a) (hA:∀ v a,A w v a→A (Att.putL w b i cs) v a):OwnPf Z S A s t (Att.putL w b i cs) v p:=by
 obtain ⟨a,c,a',c',y,k,n,rfl,g1,g2,g3⟩:=h
 exact ⟨a,c,a',c',y,k,n,rfl,g1.putT hc h1 i cs hS,g2.putT hc h2 i cs hA,g3.keep fun g hg _=>putL_block b (hb g hg) cs _ i⟩
theorem OwnPf.op (h:OwnPf Z S A s t w v p):∃ a c a' c' x k,v=.agg #[.slice a p.1.length c,.slice a' p.2.1.length c',.int .i64 p.2.2.k,.int .i64 p.2.2.a,.slice x p.2.2.sub.length k]∧Hid (OwnPf Z S A s t w (.agg #[.slice a p.1.length c,.slice a' p.2.1.length c',.int .i64 p.2.2.k,.int .i64 p.2.2.a,.slice x p.2.2.sub.length k]) p):=by
 have h0:=h
 obtain ⟨a,c,a',c',y,k,n,rfl,-,-,-⟩:=h
 exact ⟨a,c,a',c',y,k,rfl,h0⟩
end
theorem OwnBt.putT {e t u:TypeId} {w:World} {v:Value} {p:AT} {c m:Nat} (h:OwnBt e t w v p) (hc:Rt w c m u) (h1:t≠u) (h2:e≠u) (i:Nat) (cs:List Value):OwnBt e t (Att.putL w c i cs) v p:=by
 obtain ⟨a,b,d,f,rfl,h⟩:=h
 exact ⟨a,b,d,f,rfl,h.putT hc h1 h2 i cs⟩
end Go.Att
namespace Go.Proofs.YtmlhccajicmpfaaGreat
open Go.RowKit Go.Att

theorem etSj:ElemT Tryz.prog 61 166 (.agg #[.bool false,.slice none 0 0,.slice none 0 0,.bool false,.slice none 0 0,.slice none 0 0]) 6 112:=ElemT.mk' Tryz.underlying61 kR rfl dC
abbrev TnPf (Z:Nat→Prop) (w:World) (v:Value) (p:Pr (Rat × Rat) AT):Prop:=OwnPf Z TnS OwnB9 166 171 w v p
def prT (p:Pr (Rat × Rat) AT):Pr (Rat × Rat) AT:=(p.1,p.2.1,(tldF p.2.2 20002).1)
theorem told16_any {w:World} {v:Value} {p:Pr (Rat × Rat) AT} (hv:RdPr SnD OwnA w v p) (hs:∀ s∈p.1,Sz 8 s.1∧Sz 8 s.2) (ha:∀ a∈p.2.1,Smx a.1.1 a.1.2) (hn:p.1.length≤1000∧p.2.1.length≤1000):
  Calls Tryz.prog 33 #[v] w (Gives w fun v' w'=>TnPf (fun g=>w.heap.size≤g) w' v' (prT p)):=by
 refine via fun R hR=>?_
 obtain ⟨a,c,a',c',x,k,rfl,hB,hA,hF⟩:=hv.op
 obtain ⟨w1,hw1,b1,c1,-,-,-,hs1⟩:=bx2 w [.slice a p.1.length c,.slice a' p.2.1.length c',.int .i64 p.2.2.k,.int .i64 p.2.2.a,.slice x p.2.2.sub.length k] [.slice none 0 0,.slice none 0 0,.int .i64 0,.int .i64 0,.slice none 0 0] 51 67
 have HVB:=qH (hB.ext snd_ext b1)
 have HLI:Hid (∀ w',Ext w1 w'→Calls Tryz.prog 57 #[.slice a' p.2.1.length c'] w' (Gives w' fun v' w''=>∃ a c,v'=.slice a p.2.1.length c∧OwnRow 5 OwnB9 171 0 w'' (.slice a p.2.1.length c) p.2.1)):=fun w' xx=>(list9_any (hA.ext OwnAt.ext (eT b1 xx)) ha hn.2).mono fun _ _ ⟨v,e,b,o⟩=>by
  obtain ⟨a,c,rfl,-,-⟩:=o.rd.shape
  exact ⟨_,e,b,a,c,rfl,o.mono (Nat.zero_le _)⟩
 have HTO:Hid (∀ w',Ext w1 w'→Calls Tryz.prog 58 #[.agg #[.int .i64 p.2.2.k,.int .i64 p.2.2.a,.slice x p.2.2.sub.length k]] w' (Gives w' fun v' w''=>∃ n y q,v'=.agg #[.int .i64 (tldF p.2.2 20002).1.k,.int .i64 (tldF p.2.2 20002).1.a,.slice y (tldF p.2.2 20002).1.sub.length q]∧RdFs (fun g=>w'.heap.size≤g) n w'' (.agg #[.int .i64 (tldF p.2.2 20002).1.k,.int .i64 (tldF p.2.2 20002).1.a,.slice y (tldF p.2.2 20002).1.sub.length q]) (tldF p.2.2 20002).1)):=fun w' xx=>(told11_own (hF.ext (eT b1 xx))).mono fun _ _ ⟨v,e,b,n,o⟩=>by
  obtain ⟨y,q,rfl⟩:=o.shape
  exact ⟨_,e,b,n,y,q,rfl,o⟩
 have HSB:=qH hs
 have HN:=qH hn.1
 unfold prT at hR
 generalize (tldF p.2.2 20002).1=gf at*
 obtain ⟨bx,ats,fm⟩:=p
 dsimp only at*
 clear hv hs ha hn hB hA hF
 have HW:=qH hw1
 have C1:=qH c1
 have HS1:=qH hs1
 have R1:Hid (Rt w1 (w.heap.size+1) 5 67):=by
  show Rt _ _ _ _
  rw [hw1]
  have:=Rt.new (w.alloc (.cells #[.slice a bx.length c,.slice a' ats.length c',.int .i64 fm.k,.int .i64 fm.a,.slice x fm.sub.length k] 51)) [.slice none 0 0,.slice none 0 0,.int .i64 0,.int .i64 0,.slice none 0 0] 67
  simpa using this
 clear hw1 c1 hs1
 generalize fm.k=fk at*
 generalize fm.a=fa at*
 generalize fm.sub.length=fn at*
 obtain ⟨na,hna⟩:∃ na,ats.length=na:=⟨_,rfl⟩
 have HNA:=qH hna
 rw [hna] at HLI HW C1 ⊢
 clear hna
 go_enter Tryz.func33,Tryz.ntmps33
 go_upto_region 1 with (fail)
 rw [← HW.out]
 clear HW
 go_cut [3] (fun s3 wx=>∃ (E:Nat) (aT:Option Addr) (cT:Nat) (xT:Option Addr) (qT kT:Nat),s3=.pointer (some ⟨E,0,none⟩)∧w1.heap.size≤E∧Ext w1 wx∧Hid (Bx wx E [.slice none 0 0,.slice aT na cT,.int .i64 gf.k,.int .i64 gf.a,.slice xT gf.sub.length qT])∧Hid (Rt wx E 5 67)∧Hid (OwnRow 5 OwnB9 171 0 wx (.slice aT na cT) ats)∧Hid (RdFs (fun g=>g≠E∧w1.heap.size≤g) kT wx (.agg #[.int .i64 gf.k,.int .i64 gf.a,.slice xT gf.sub.length qT]) gf))
 case first=>
  have b2:=drew_ext w1
  have XE:=b2
  refine wp_region_noPanic ?_
  refine wp_region_held_drew (S:=fun w'=>w'.cell? ⟨w.heap.size,0,none⟩=some (.slice a bx.length c)∧w'.cell? ⟨w.heap.size,1,none⟩=some (.slice a' na c')∧w'.cell? ⟨w.heap.size,2,none⟩=some (.int .i64 fk)∧w'.cell? ⟨w.heap.size,3,none⟩=some (.int .i64 fa)∧w'.cell? ⟨w.heap.size,4,none⟩=some (.slice x fn k)) kR ((C1.out.ext XE).c5) (fun hHeld=>?_)
  refine gen_world (P:=wpAnyH _ _ _ _ _ _ _ _) _ (fun wn hwn=>?_)
  have bn:Ext w1 wn:=(hwn.symm ▸ drew_ext w1)
  rw [← hwn] at hHeld
  clear hwn
  have WC:=qH (C1.out.ext bn)
  have WX:=qH bn
  refine tkH 0 hHeld ?_
  simp only [jP,jJ]
  refine tkH 1 hHeld ?_
  simp only [jP,jJ]
  refine tkH 3 hHeld ?_
  simp only [jP,jJ]
  refine tkH 4 hHeld ?_
  simp only [jP,jJ]
  refine wpAnyH_ready (rs:=[2,7]) kR (by simp) ?_
  refine AllReadyH.cons (o:=_) rfl (fun K hK=>?_) (AllReadyH.cons (o:=_) rfl (fun K hK=>?_) AllReadyH.nil)
  ·skip
   go_simp
   go_at_call 57
   refine (HLI.out _ WX.out).mono ?_
   rintro e wn2 ⟨_,rfl,bn,aT,cT,rfl,hrT⟩
   have TR:=qH hrT
   clear hrT
   have WC:=qH (WC.out.ext bn)
   have WX:=qH (eT WX.out bn)
   try have RA:=qH (RA.out.ext bn)
   obtain ⟨wn,hwn⟩:∃ W:World,W=wn2:=⟨_,rfl⟩
   subst hwn
   go_wp2_with fail
   refine hK.out _ _ WC.out.c5 (fun hHeld=>?_)
   clear hK K
   try simp only [jP,jJ]
   refine wpAnyH_ready (rs:=[5,7]) kR (by simp) ?_
   refine AllReadyH.cons (o:=_) rfl (fun K hK=>?_) (AllReadyH.cons (o:=_) rfl (fun K hK=>?_) AllReadyH.nil)
   ·skip
    go_simp
    go_at_call 58
    refine (HTO.out _ WX.out).mono ?_
    have SZC:Hid (w1.heap.size≤wn.heap.size):=Below.size WX.out
    try have NCX:Hid (BA < wn.heap.size):=RA.out.lt
    rintro e wn2 ⟨_,rfl,bn,kT,xT,qT,rfl,hfT⟩
    have TF2:Hid (RdFs (fun g=>w1.heap.size≤g) kT wn2 (.agg #[.int .i64 gf.k,.int .i64 gf.a,.slice xT gf.sub.length qT]) gf):=RdFs.to (fun g hg _=>Nat.le_trans SZC.out hg) hfT
    try have TF:Hid (RdFs (fun g=>g≠BA∧w1.heap.size≤g) kT wn2 (.agg #[.int .i64 gf.k,.int .i64 gf.a,.slice xT gf.sub.length qT]) gf):=RdFs.to (fun g hg _=>⟨by have:=NCX.out;omega,Nat.le_trans SZC.out hg⟩) hfT
    clear hfT
    have TR:=qH (TR.out.ext OwnBt.ext bn)
    have WC:=qH (WC.out.ext bn)
    have WX:=qH (eT WX.out bn)
    try have RA:=qH (RA.out.ext bn)
    obtain ⟨wn,hwn⟩:∃ W:World,W=wn2:=⟨_,rfl⟩
    subst hwn
    go_wp2_with fail
    refine hK.out _ _ WC.out.c5 (fun hHeld=>?_)
    clear hK K
    try simp only [jP,jJ]
    refine tkH 6 hHeld ?_
    simp only [jP,jJ]
    refine rdH 7 kR rfl (fun K hK=>?_)
    go_simp
    refine hK.out _ _ ((WC.out.ext (Ext.alloc _ _)).c5) (fun hHeld=>?_)
    refine gen_world (P:=wpAnyH _ _ _ _ _ _ _ _) _ (fun wm hwm=>?_)
    rw [← hwm] at hHeld
    have RA:Hid (Rt wm wn.heap.size 5 67):=(by rw [hwm];exact qH (Rt.new wn [_,_,_,_,_] _))
    have bn:Ext wn wm:=(by rw [hwm];exact Ext.alloc _ _)
    try have TF:Hid (RdFs (fun g=>g≠wn.heap.size∧w1.heap.size≤g) kT wm (.agg #[.int .i64 gf.k,.int .i64 gf.a,.slice xT gf.sub.length qT]) gf):=(RdFs.to (fun g hg hlt=>⟨by omega,hg⟩) TF2.out).ext bn
    have NCA:Hid (w1.heap.size≤wn.heap.size):=Below.size WX.out
    obtain ⟨BA,hBA⟩:∃ BA,wn.heap.size=BA:=⟨_,rfl⟩
    rw [hBA] at RA NCA ⊢
    try rw [hBA] at TF
    clear hBA hwm
    obtain ⟨wn,hwn⟩:∃ W:World,W=wm:=⟨_,rfl⟩
    subst hwn
    have WC:=qH (WC.out.ext bn)
    have WX:=qH (eT WX.out bn)
    try have TR:=qH (TR.out.ext OwnBt.ext bn)
    clear hK K
    try simp only [jP,jJ]
    refine rdH 8 kR rfl (fun K hK=>?_)
    obtain ⟨_,_,_,_,_,r0,r1,r2,r3,r4,i0,i1,i2,i3,i4⟩:=RA.out.c5
    go_simp
    refine hK.out _ _ ((WC.out.keepC (putL_block BA (by have:=NCA.out;have:=C1.out.lt;omega) [_,_,_,_,_] _ 0)).c5) (fun hHeld=>?_)
    clear hK K
    try simp only [jP,jJ]
    refine dnH kR ?_
    go_wp2_with fail
    go_meet
    exact ⟨BA,aT,cT,xT,qT,kT,rfl,NCA.out,putL_below NCA.out [_,_,_,_,_] 0 WX.out,(RA.out.putL_at [_,_,_,_,_] rfl).1,(RA.out.putL_at [_,_,_,_,_] rfl).2,TR.out.putT RA.out dC 0 [_,_,_,_,_] (fun _ _ h=>OwnBt.putT h RA.out dC dC 0 [_,_,_,_,_]),RdFs.keep (fun g hg _=>putL_block BA hg.1 [_,_,_,_,_] _ 0) TF.out⟩
   skip
   go_simp
   refine hK.out _ _ ((WC.out.ext (Ext.alloc _ _)).c5) (fun hHeld=>?_)
   refine gen_world (P:=wpAnyH _ _ _ _ _ _ _ _) _ (fun wm hwm=>?_)
   rw [← hwm] at hHeld
   have RA:Hid (Rt wm wn.heap.size 5 67):=(by rw [hwm];exact qH (Rt.new wn [_,_,_,_,_] _))
   have bn:Ext wn wm:=(by rw [hwm];exact Ext.alloc _ _)
   try have TF:Hid (RdFs (fun g=>g≠wn.heap.size∧w1.heap.size≤g) kT wm (.agg #[.int .i64 gf.k,.int .i64 gf.a,.slice xT gf.sub.length qT]) gf):=(RdFs.to (fun g hg hlt=>⟨by omega,hg⟩) TF2.out).ext bn
   have NCA:Hid (w1.heap.size≤wn.heap.size):=Below.size WX.out
   obtain ⟨BA,hBA⟩:∃ BA,wn.heap.size=BA:=⟨_,rfl⟩
   rw [hBA] at RA NCA ⊢
   try rw [hBA] at TF
   clear hBA hwm
   obtain ⟨wn,hwn⟩:∃ W:World,W=wm:=⟨_,rfl⟩
   subst hwn
   have WC:=qH (WC.out.ext bn)
   have WX:=qH (eT WX.out bn)
   try have TR:=qH (TR.out.ext OwnBt.ext bn)
   clear hK K
   try simp only [jP,jJ]
   refine rdH 5 kR rfl (fun K hK=>?_)
   go_simp
   go_at_call 58
   refine (HTO.out _ WX.out).mono ?_
   have SZC:Hid (w1.heap.size≤wn.heap.size):=Below.size WX.out
   try have NCX:Hid (BA < wn.heap.size):=RA.out.lt
   rintro e wn2 ⟨_,rfl,bn,kT,xT,qT,rfl,hfT⟩
   have TF2:Hid (RdFs (fun g=>w1.heap.size≤g) kT wn2 (.agg #[.int .i64 gf.k,.int .i64 gf.a,.slice xT gf.sub.length qT]) gf):=RdFs.to (fun g hg _=>Nat.le_trans SZC.out hg) hfT
   try have TF:Hid (RdFs (fun g=>g≠BA∧w1.heap.size≤g) kT wn2 (.agg #[.int .i64 gf.k,.int .i64 gf.a,.slice xT gf.sub.length qT]) gf):=RdFs.to (fun g hg _=>⟨by have:=NCX.out;omega,Nat.le_trans SZC.out hg⟩) hfT
   clear hfT
   have TR:=qH (TR.out.ext OwnBt.ext bn)
   have WC:=qH (WC.out.ext bn)
   have WX:=qH (eT WX.out bn)
   try have RA:=qH (RA.out.ext bn)
   obtain ⟨wn,hwn⟩:∃ W:World,W=wn2:=⟨_,rfl⟩
   subst hwn
   go_wp2_with fail
   refine hK.out _ _ WC.out.c5 (fun hHeld=>?_)
   clear hK K
   try simp only [jP,jJ]
   refine tkH 6 hHeld ?_
   simp only [jP,jJ]
   refine rdH 8 kR rfl (fun K hK=>?_)
   obtain ⟨_,_,_,_,_,r0,r1,r2,r3,r4,i0,i1,i2,i3,i4⟩:=RA.out.c5
   go_simp
   refine hK.out _ _ ((WC.out.keepC (putL_block BA (by have:=NCA.out;have:=C1.out.lt;omega) [_,_,_,_,_] _ 0)).c5) (fun hHeld=>?_)
   clear hK K
   try simp only [jP,jJ]
   refine dnH kR ?_
   go_wp2_with fail
   go_meet
   exact ⟨BA,aT,cT,xT,qT,kT,rfl,NCA.out,putL_below NCA.out [_,_,_,_,_] 0 WX.out,(RA.out.putL_at [_,_,_,_,_] rfl).1,(RA.out.putL_at [_,_,_,_,_] rfl).2,TR.out.putT RA.out dC 0 [_,_,_,_,_] (fun _ _ h=>OwnBt.putT h RA.out dC dC 0 [_,_,_,_,_]),RdFs.keep (fun g hg _=>putL_block BA hg.1 [_,_,_,_,_] _ 0) TF.out⟩
  skip
  go_simp
  refine hK.out _ _ ((WC.out.ext (Ext.alloc _ _)).c5) (fun hHeld=>?_)
  refine gen_world (P:=wpAnyH _ _ _ _ _ _ _ _) _ (fun wm hwm=>?_)
  rw [← hwm] at hHeld
  have RA:Hid (Rt wm wn.heap.size 5 67):=(by rw [hwm];exact qH (Rt.new wn [_,_,_,_,_] _))
  have bn:Ext wn wm:=(by rw [hwm];exact Ext.alloc _ _)
  try have TF:Hid (RdFs (fun g=>g≠wn.heap.size∧w1.heap.size≤g) kT wm (.agg #[.int .i64 gf.k,.int .i64 gf.a,.slice xT gf.sub.length qT]) gf):=(RdFs.to (fun g hg hlt=>⟨by omega,hg⟩) TF2.out).ext bn
  have NCA:Hid (w1.heap.size≤wn.heap.size):=Below.size WX.out
  obtain ⟨BA,hBA⟩:∃ BA,wn.heap.size=BA:=⟨_,rfl⟩
  rw [hBA] at RA NCA ⊢
  try rw [hBA] at TF
  clear hBA hwm
  obtain ⟨wn,hwn⟩:∃ W:World,W=wm:=⟨_,rfl⟩
  subst hwn
  have WC:=qH (WC.out.ext bn)
  have WX:=qH (eT WX.out bn)
  try have TR:=qH (TR.out.ext OwnBt.ext bn)
  clear hK K
  try simp only [jP,jJ]
  refine rdH 2 kR rfl (fun K hK=>?_)
  go_simp
  go_at_call 57
  refine (HLI.out _ WX.out).mono ?_
  rintro e wn2 ⟨_,rfl,bn,aT,cT,rfl,hrT⟩
  have TR:=qH hrT
  clear hrT
  have WC:=qH (WC.out.ext bn)
  have WX:=qH (eT WX.out bn)
  try have RA:=qH (RA.out.ext bn)
  obtain ⟨wn,hwn⟩:∃ W:World,W=wn2:=⟨_,rfl⟩
  subst hwn
  go_wp2_with fail
  refine hK.out _ _ WC.out.c5 (fun hHeld=>?_)
  clear hK K
  try simp only [jP,jJ]
  refine rdH 5 kR rfl (fun K hK=>?_)
  go_simp
  go_at_call 58
  refine (HTO.out _ WX.out).mono ?_
  have SZC:Hid (w1.heap.size≤wn.heap.size):=Below.size WX.out
  try have NCX:Hid (BA < wn.heap.size):=RA.out.lt
  rintro e wn2 ⟨_,rfl,bn,kT,xT,qT,rfl,hfT⟩
  have TF2:Hid (RdFs (fun g=>w1.heap.size≤g) kT wn2 (.agg #[.int .i64 gf.k,.int .i64 gf.a,.slice xT gf.sub.length qT]) gf):=RdFs.to (fun g hg _=>Nat.le_trans SZC.out hg) hfT
  try have TF:Hid (RdFs (fun g=>g≠BA∧w1.heap.size≤g) kT wn2 (.agg #[.int .i64 gf.k,.int .i64 gf.a,.slice xT gf.sub.length qT]) gf):=RdFs.to (fun g hg _=>⟨by have:=NCX.out;omega,Nat.le_trans SZC.out hg⟩) hfT
  clear hfT
  have TR:=qH (TR.out.ext OwnBt.ext bn)
  have WC:=qH (WC.out.ext bn)
  have WX:=qH (eT WX.out bn)
  try have RA:=qH (RA.out.ext bn)
  obtain ⟨wn,hwn⟩:∃ W:World,W=wn2:=⟨_,rfl⟩
  subst hwn
  go_wp2_with fail
  refine hK.out _ _ WC.out.c5 (fun hHeld=>?_)
  clear hK K
  try simp only [jP,jJ]
  refine tkH 6 hHeld ?_
  simp only [jP,jJ]
  refine rdH 8 kR rfl (fun K hK=>?_)
  obtain ⟨_,_,_,_,_,r0,r1,r2,r3,r4,i0,i1,i2,i3,i4⟩:=RA.out.c5
  go_simp
  refine hK.out _ _ ((WC.out.keepC (putL_block BA (by have:=NCA.out;have:=C1.out.lt;omega) [_,_,_,_,_] _ 0)).c5) (fun hHeld=>?_)
  clear hK K
  try simp only [jP,jJ]
  refine dnH kR ?_
  go_wp2_with fail
  go_meet
  exact ⟨BA,aT,cT,xT,qT,kT,rfl,NCA.out,putL_below NCA.out [_,_,_,_,_] 0 WX.out,(RA.out.putL_at [_,_,_,_,_] rfl).1,(RA.out.putL_at [_,_,_,_,_] rfl).2,TR.out.putT RA.out dC 0 [_,_,_,_,_] (fun _ _ h=>OwnBt.putT h RA.out dC dC 0 [_,_,_,_,_]),RdFs.keep (fun g hg _=>putL_block BA hg.1 [_,_,_,_,_] _ 0) TF.out⟩
 case rest=>
  obtain ⟨E,aT,cT,xT,qT,kT,rfl,hE1,hX2,hC2,hR2,hA2,hF2⟩:=hcut
  obtain ⟨w2,hw2⟩:∃ w0:World,w0=wc:=⟨_,rfl⟩
  subst hw2
  have HE:=qH hE1
  clear hE1
  obtain ⟨j0,j1,j2,j3,j4⟩:=(C1.out.ext hX2).c5
  clear j1 j2 j3 j4
  go_wp2_with fail
  clear j0
  go_loopw [16] (fun t wr=>∃ (i:Nat) (ao:Option Addr) (ko:Nat),t=.int .i64 i∧i≤bx.length∧Hid (Ext w1 wr)∧Hid (Bx wr E [.slice ao i ko,.slice aT na cT,.int .i64 gf.k,.int .i64 gf.a,.slice xT gf.sub.length qT])∧Hid (Rt wr E 5 67)∧Hid (OwnRow 6 TnS 166 w1.heap.size wr (.slice ao i ko) (bx.take i))∧Hid (OwnRow 5 OwnB9 171 0 wr (.slice aT na cT) ats)∧Hid (RdFs (fun g=>g≠E∧w1.heap.size≤g∧(Value.slice ao i ko).ownBlock≠some g) kT wr (.agg #[.int .i64 gf.k,.int .i64 gf.a,.slice xT gf.sub.length qT]) gf)) (fun t _=>bx.length - (intOf t).toNat)
  case atStart=>exact ⟨0,none,0,rfl,Nat.zero_le _,hX2,hC2,hR2,by rw [List.take_zero];exact OwnRow.nil _ _ _,hA2,RdFs.to (fun g hg _=>⟨hg.1,hg.2,fun h=>by cases h⟩) hF2.out⟩
  case round=>
   clear hC2 hR2 hX2 hA2 hF2
   obtain ⟨i,ao,ko,rfl,hi,hX,hC,hRt,hO,hP,hG⟩:=hrel
   obtain ⟨w3,hw3⟩:∃ w0:World,w0=wr:=⟨_,rfl⟩
   subst hw3
   have hsz3:w1.heap.size≤w3.heap.size:=Below.size hX.out
   by_cases hlt:i < bx.length
   ·have hd:=dT ((i:Int) < (bx.length:Int))
    have HJ1:IntKind.i64.wrap ((i:Int)+1)=((i+1:Nat):Int):=by have:=HN.out;rw [IntKind.wrap_i64];omega
    have HI2:(0:Int)≤(i:Int)∧(i:Int) < (bx.length:Int):=⟨by omega,by omega⟩
    obtain ⟨bL,oL,s,x0,k0,m0,x1,k1,m1,t,y0,q0,r0,y1,q1,r1,hae,hbo,hq0,hq1⟩:=(HVB.out.ext snd_ext hX.out).sp i hlt
    subst hae
    have HSN:Hid (bx.take (i+1)=bx.take i ++ [bx[i]]):=(List.take_append_getElem hlt).symm
    have HSZ:=qH (HSB.out _ (List.getElem_mem hlt))
    obtain ⟨u0,u1,u2,u3,u4,u5⟩:=hbo.c6
    obtain ⟨w4,hw4,b4,c4,-,-⟩:=bx1 w3 [.bool s,.slice x0 k0 m0,.slice x1 k1 m1,.bool t,.slice y0 q0 r0,.slice y1 q1 r1] 74
    have HW:=qH hw4
    have C4:=qH c4
    have HQ1:Hid (∀ w',Ext w4 w'→Calls Tryz.prog 50 #[.agg #[.bool s,.slice x0 k0 m0,.slice x1 k1 m1]] w' (Gives w' fun v' w'=>OwnP 4 0 w' v' bx[i].1)):=fun w' xx=>(told_any (hq0.ext (eT b4 xx)).rd (HSZ.out.1.le dC)).mono fun _ _ ⟨v,e,b,o⟩=>⟨v,e,b,o.mono (Nat.zero_le _)⟩
    have HQ2:Hid (∀ w',Ext w4 w'→Calls Tryz.prog 50 #[.agg #[.bool t,.slice y0 q0 r0,.slice y1 q1 r1]] w' (Gives w' fun v' w'=>OwnP 4 0 w' v' bx[i].2)):=fun w' xx=>(told_any (hq1.ext (eT b4 xx)).rd (HSZ.out.2.le dC)).mono fun _ _ ⟨v,e,b,o⟩=>⟨v,e,b,o.mono (Nat.zero_le _)⟩
    clear hw4 c4 hbo hq0 hq1
    obtain ⟨q,hq⟩:∃ q,bx[i]=q:=⟨_,rfl⟩
    rw [hq] at HSN HQ1 HQ2
    clear hq HSZ
    obtain ⟨ol,hol⟩:∃ ol,bx.take i=ol:=⟨_,rfl⟩
    have HSL:Hid (ol.length=i∧i≤1000):=by rw [← hol,List.length_take];exact ⟨by omega,by have:=HN.out;omega⟩
    rw [hol] at hO HSN
    clear hol
    obtain ⟨ol2,hol2⟩:∃ ol,bx.take (i+1)=ol:=⟨_,rfl⟩
    have HW2:Hid (ol2.length=i+1):=by show _=_;rw [← hol2,List.length_take];omega
    have HOE:=qH hol2
    rw [hol2] at HSN
    have HST:=qH HSN.out
    clear hol2 HSN
    go_upto_region 5 with (fail)
    rw [← HW.out]
    clear HW u0 u1 u2 u3 u4 u5
    have hX4:=eT hX.out b4
    have hsz4:w1.heap.size≤w4.heap.size:=Below.size hX4
    have hC4:=qH (hC.out.ext b4)
    have hR4:=qH (hRt.out.ext b4)
    have hO4:=qH (hO.out.ext tns_ext b4)
    have hP4:=qH (hP.out.ext OwnBt.ext b4)
    have hG4:=qH (hG.out.ext b4)
    have neS:=hO4.out.ne_rt hR4.out dC
    have b5:=drew_ext w4
    have XE:=b5
    refine wp_region_noPanic ?_
    refine wp_region_cut_drew (st:=12) (S:=fun w'=>(w'.cell? ⟨E,0,none⟩=some (.slice ao i ko))∧(w'.cell? ⟨w3.heap.size,0,none⟩=some (.bool s)∧w'.cell? ⟨w3.heap.size,1,none⟩=some (.slice x0 k0 m0)∧w'.cell? ⟨w3.heap.size,2,none⟩=some (.slice x1 k1 m1)∧w'.cell? ⟨w3.heap.size,3,none⟩=some (.bool t)∧w'.cell? ⟨w3.heap.size,4,none⟩=some (.slice y0 q0 r0)∧w'.cell? ⟨w3.heap.size,5,none⟩=some (.slice y1 q1 r1))) kR (⟨(hC4.out.ext XE).c1,(C4.out.ext XE).c6⟩) (fun hHeld=>?_)
    refine tkT 0 [12] hHeld ?_
    simp only [jP,jJ]
    refine tkT 1 [12] hHeld ?_
    simp only [jP,jJ]
    refine tkT 2 [12] hHeld ?_
    simp only [jP,jJ]
    refine tkT 3 [12] hHeld ?_
    simp only [jP,jJ]
    refine tkT 5 [12] hHeld ?_
    simp only [jP,jJ]
    refine tkT 6 [12] hHeld ?_
    simp only [jP,jJ]
    refine rdT 4 kR rfl rF (fun K hK=>?_)
    go_simp
    go_at_call 50;refine (HQ1.out _ XE).mono ?_;rintro e w6 ⟨v6,rfl,b6,o6⟩;have O6:=qH o6;clear o6;(first | have XE:=eT XE b6 | have XE:=eT (eT XE (Ext.alloc _ _)) b6);obtain ⟨e1,e2,e3,e4,e5,e6,e7,rfl,P5⟩:=O6.out.op
    go_wp2_with fail
    refine hK.out _ _ (⟨(hC4.out.ext XE).c1,(C4.out.ext XE).c6⟩) (fun hHeld=>?_)
    clear hK K
    try simp only [jP,jJ]
    refine rdT 7 kR rfl rF (fun K hK=>?_)
    go_simp
    go_at_call 50;refine (HQ2.out _ XE).mono ?_;rintro e w7 ⟨v7,rfl,b7,o7⟩;have O7:=qH o7;clear o7;(first | have XE:=eT XE b7 | have XE:=eT (eT XE (Ext.alloc _ _)) b7);obtain ⟨f1,f2,f3,f4,f5,f6,f7,rfl,P6⟩:=O7.out.op;have P5:=qH (OwnP.ext P5.out b7)
    go_wp2_with fail
    refine hK.out _ _ (⟨(hC4.out.ext XE).c1,(C4.out.ext XE).c6⟩) (fun hHeld=>?_)
    clear hK K
    try simp only [jP,jJ]
    refine tkT 8 [12] hHeld ?_
    simp only [jP,jJ]
    refine rdT 9 kR rfl rF (fun K hK=>?_)
    refine if_wantedL rfl ?_
    refine build1K etSj rF (T:=TnS) tns_ext rF [.bool e1,.slice e2 e3 e4,.slice e5 e6 e7,.bool f1,.slice f2 f3 f4,.slice f5 f6 f7] (fill_d1 ..) rfl dC (y:=q) (OwnE.mk6 P5.out P6.out) ?_
    intro g20 w20 x20 _ l20
    have XE:=eT XE x20
    have L20:=qH l20.rd
    clear l20
    refine hK.out _ _ ⟨(hC4.out.ext XE).c1,(C4.out.ext XE).c6⟩ (fun hHeld=>?_)
    clear hK K
    try simp only [jP,jJ]
    refine rdT 10 kR rfl rF (fun K hK=>?_)
    refine if_wantedL rfl ?_
    refine append_rowG etSj (kdE (e:=4) dC) _ _ rF w1.heap.size rF (hO4.out.ext tns_ext XE) rF L20.out (by have:=HSL.out;omega) (by have:=HSL.out;unfold maxLen;omega) (Nat.le_trans hsz4 (Below.size XE)) ?_
    intro v9 w9 o9 b9 g9 k9
    have RO9:=qH ((hR4.out.ext XE).grow g9 neS)
    have DO9:=qH ((hC4.out.ext XE).grow g9 neS)
    obtain ⟨nn,xs,hown⟩:=(hO4.out.ext tns_ext XE).own
    have HP9:=qH (OwnRow.grown (hP4.out.ext OwnBt.ext XE) (fun _ _ h=>(kdBt dC dC).grown h hown g9) hown dC g9)
    have HG9:Hid (RdFs (fun g=>g≠E∧w1.heap.size≤g∧v9.ownBlock≠some g) kT w9 (.agg #[.int .i64 gf.k,.int .i64 gf.a,.slice xT gf.sub.length qT]) gf):=RdFs.to (S:=fun g=>(g≠E∧w1.heap.size≤g∧v9.ownBlock≠some g)∧(Value.slice ao i ko).ownBlock≠some g) (fun g hg _=>hg.1) (RdFs.keep (fun g hg hlt=>g9.block g hlt (Ne.symm hg.2)) (RdFs.to (S':=fun g=>(g≠E∧w1.heap.size≤g∧v9.ownBlock≠some g)∧(Value.slice ao i ko).ownBlock≠some g) (fun g hg hlt=>⟨⟨hg.1,hg.2.1,fun he=>(k9 g he).elim (fun h=>hg.2.2 h) (fun h=>by omega)⟩,hg.2.2⟩) (hG4.out.ext XE)))
    have XW:=qH (Below.trans hX4 (Below.trans (Below.mono XE hsz4) b9))
    have O9:Hid (OwnRow 6 TnS 166 w1.heap.size w9 v9 ol2):=(by rw [HST.out];exact o9)
    obtain ⟨a11,k11,he9,-,-⟩:=O9.out.rd.shape
    rw [HW2.out] at he9
    subst he9
    have CS9:=qH ((C4.out.ext XE).grow g9 hO.out.ne_new)
    refine hK.out _ _ ⟨DO9.out.c1,CS9.out.c6⟩ (fun hHeld=>?_)
    clear hK K o9 hown
    try simp only [jP,jJ]
    refine tkT 11 [12] hHeld ?_
    simp only [jP,jJ]
    obtain ⟨_,_,_,_,_,n0,n1,n2,n3,n4,i0,i1,i2,i3,i4⟩:=RO9.out.c5
    refine wpAnyT_ready (rs:=[12]) kR (by simp) ?_
    refine AllReadyT.cut (o:=_) rfl (fun K hK=>?_)
    go_simp
    refine hK.out _ _ ?_
    clear hK K
    try simp only [jP,jJ]
    refine wpAny_done kR ?_ _
    refine NoPanic.normal ?_
    go_wp2_with fail
    go_roundw
    case rel=>exact ⟨i+1,a11,k11,by go_num,by omega,putL_below HE.out [_] 0 XW.out,DO9.out.setAt RO9.out 0 dC _,RO9.out.setAt 0 _,by rw [HOE.out];exact O9.out.putT RO9.out dC 0 [_] (fun _ _ h=>OwnE.putS h RO9.out dC 0 [_]),HP9.out.putT RO9.out dC 0 [_] (fun _ _ h=>OwnBt.putT h RO9.out dC dC 0 [_]),RdFs.keep (fun g hg _=>putL_block E hg.1 [_] _ 0) HG9.out⟩
    simp [intOf]<;>omega
   obtain rfl:i=bx.length:=by omega
   have hd:=dF ((bx.length:Int) < (bx.length:Int))
   rw [List.take_length] at hO
   obtain ⟨q0,q1,q2,q3,q4⟩:=hC.out.c5
   obtain ⟨_,_,_,_,_,n0,n1,n2,n3,n4,i0,i1,i2,i3,i4⟩:=(R1.out.ext hX.out).c5
   go_wp2_with fail
   refine bodyPost_ret (v:=.agg #[.slice ao bx.length ko,.slice aT na cT,.int .i64 gf.k,.int .i64 gf.a,.slice xT gf.sub.length qT]) (by simp [results,Tryz.results33,go_sem,n0,n1,n2,n3,n4]) rfl ?_
   have hs1:=HS1.out
   have hna:=HNA.out
   subst hna
   refine hR.out _ _ (Gives.mk (putL_below oM [_,_,_,_,_] 0 (eT b1 hX.out)) ⟨ao,ko,aT,cT,xT,qT,kT,rfl,?_,?_,?_⟩)
   ·exact (hO.out.mono (Nat.zero_le _)).putT (R1.out.ext hX.out) dC 0 [_,_,_,_,_] (fun _ _ h=>OwnE.putS h (R1.out.ext hX.out) dC 0 [_,_,_,_,_])
   ·exact hP.out.putT (R1.out.ext hX.out) dC 0 [_,_,_,_,_] (fun _ _ h=>OwnBt.putT h (R1.out.ext hX.out) dC dC 0 [_,_,_,_,_])
   exact RdFs.to (fun g hg _=>by have:=hg.2.1;omega) (RdFs.keep (w':=Att.putL w3 (w.heap.size+1) 0 [_,_,_,_,_]) (fun g hg _=>putL_block _ (by have:=hg.2.1;omega) _ _ _) hG.out)
theorem told19_any {w:World} {v:Value} {q:Nt Rat × Pr (Rat × Rat) AT} (hv:QyP w v q) (hl:lit q.1) (hz:∀ l∈q.1.2,SzL l) (hs:∀ s∈q.2.1,Sz 8 s.1∧Sz 8 s.2) (ha:∀ a∈q.2.2.1,Smx a.1.1 a.1.2) (hn:q.2.1.length≤1000∧q.2.2.1.length≤1000):
  Calls Tryz.prog 11 #[v] w (Gives w fun v' w'=>QyT w' v' (q.1,prT q.2)):=by
 refine via fun R hR=>?_
 obtain ⟨a0,c0,a,c,a',c',x,k,rfl,hN,hP⟩:=hv.op2
 have HN:Hid (∀ w',Ext w w'→Calls Tryz.prog 32 #[.agg #[.int .i64 q.1.1,.slice a0 q.1.2.length c0]] w' (Gives w' fun v' w'=>OwnNetG w w' v' q.1)):=fun w' xx=>told15_own xx (hN.mono fun _ _ h=>OwnQ.rd h) hl hz
 have HP:Hid (∀ w',Ext w w'→Calls Tryz.prog 33 #[.agg #[.slice a q.2.1.length c,.slice a' q.2.2.1.length c',.int .i64 q.2.2.2.k,.int .i64 q.2.2.2.a,.slice x q.2.2.2.sub.length k]] w' (Gives w' fun v' w''=>TnPf (fun g=>w'.heap.size≤g) w'' v' (prT q.2))):=fun w' xx=>told16_any (hP.ext snd_ext OwnAt.ext xx) hs ha hn
 obtain ⟨w1,hw1,b1,c1,-,-,-,hs1⟩:=bx2 w [.int .i64 q.1.1,.slice a0 q.1.2.length c0,.slice a q.2.1.length c,.slice a' q.2.2.1.length c',.int .i64 q.2.2.2.k,.int .i64 q.2.2.2.a,.slice x q.2.2.2.sub.length k] [.int .i64 0,.slice none 0 0,.slice none 0 0,.slice none 0 0,.int .i64 0,.int .i64 0,.slice none 0 0] 53 69
 have HW:=qH hw1
 have C1:=qH c1
 have HS1:=qH hs1
 have R2:Hid (Rt w1 (w.heap.size+1) 7 69):=by
  show Rt _ _ _ _
  rw [hw1]
  have:=Rt.new (w.alloc (.cells #[.int .i64 q.1.1,.slice a0 q.1.2.length c0,.slice a q.2.1.length c,.slice a' q.2.2.1.length c',.int .i64 q.2.2.2.k,.int .i64 q.2.2.2.a,.slice x q.2.2.2.sub.length k] 53)) [.int .i64 0,.slice none 0 0,.slice none 0 0,.slice none 0 0,.int .i64 0,.int .i64 0,.slice none 0 0] 69
  simpa using this
 clear hw1 hs1 c1 hv hN hP hl hz hs ha hn
 generalize hpt:prT q.2=pq at*
 clear hpt
 obtain ⟨m,bx,ats,fm⟩:=q
 dsimp only at*
 obtain ⟨nm,hnm⟩:∃ n,m.2.length=n:=⟨_,rfl⟩
 have HNM:=qH hnm
 rw [hnm] at HN HW C1 ⊢
 clear hnm
 generalize bx.length=nb at*
 generalize ats.length=na at*
 generalize fm.k=fk at*
 generalize fm.a=fa at*
 generalize fm.sub.length=fn at*
 go_enter Tryz.func11,Tryz.ntmps11
 go_upto_region 1 with (fail)
 rw [← HW.out]
 clear HW
 have b2:=drew_ext w1
 have XE:=b2
 refine wp_region_noPanic ?_
 refine wp_region_last_drew (st:=7) (S:=fun w'=>w'.cell? ⟨w.heap.size,0,none⟩=some (.int .i64 m.1)∧w'.cell? ⟨w.heap.size,1,none⟩=some (.slice a0 nm c0)∧w'.cell? ⟨w.heap.size,2,none⟩=some (.slice a nb c)∧w'.cell? ⟨w.heap.size,3,none⟩=some (.slice a' na c')∧w'.cell? ⟨w.heap.size,4,none⟩=some (.int .i64 fk)∧w'.cell? ⟨w.heap.size,5,none⟩=some (.int .i64 fa)∧w'.cell? ⟨w.heap.size,6,none⟩=some (.slice x fn k)) kR ((C1.out.ext XE).c7) (fun hHeld=>?_)
 refine tkL 0 hHeld ?_
 simp only [jP,jJ]
 refine tkL 1 hHeld ?_
 simp only [jP,jJ]
 refine tkL 3 hHeld ?_
 simp only [jP,jJ]
 refine tkL 4 hHeld ?_
 simp only [jP,jJ]
 refine rdL 2 kR rfl (fun K hK=>?_)
 go_simp
 go_at_call 32;refine (HN.out _ (eT b1 XE)).mono ?_;rintro e w3 ⟨v3,rfl,b3,o3⟩;have O3:=qH o3;clear o3;(first | have XE:=eT XE b3 | have XE:=eT (eT XE (Ext.alloc _ _)) b3);have SZ3:Hid (w1.heap.size≤w3.heap.size):=Below.size XE;obtain ⟨an,kn,rfl,P3⟩:=OwnNetG.op O3.out;rw [HNM.out] at P3 ⊢
 go_wp2_with fail
 refine hK.out _ _ ((C1.out.ext XE).c7) (fun hHeld=>?_)
 clear hK K
 try simp only [jP,jJ]
 refine rdL 5 kR rfl (fun K hK=>?_)
 go_simp
 go_at_call 33;refine (HP.out _ (eT b1 XE)).mono ?_;rintro e w4 ⟨v4,rfl,b4,o4⟩;have O4:=qH o4;clear o4;(first | have XE:=eT XE b4 | have XE:=eT (eT XE (Ext.alloc _ _)) b4);obtain ⟨ab,kb,aa,ka,xf,kf,rfl,P4⟩:=OwnPf.op O4.out;have P3:=qH (OwnNetG.ext P3.out b4)
 go_wp2_with fail
 refine hK.out _ _ ((C1.out.ext XE).c7) (fun hHeld=>?_)
 clear hK K
 try simp only [jP,jJ]
 refine tkL 6 hHeld ?_
 simp only [jP,jJ]
 obtain ⟨_,_,_,_,_,_,_,j0,j1,j2,j3,j4,j5,j6,i0,i1,i2,i3,i4,i5,i6⟩:=(R2.out.ext XE).c7
 refine wpAnyL_ready (rs:=[7]) kR (by simp) ?_
 refine AllReadyL.last (o:=_) rfl (fun K hK=>?_)
 go_simp
 refine hK.out _ _ ?_
 clear hK K
 try simp only [jP,jJ]
 refine wpAnyL_done kR ?_ _
 refine NoPanic.normal ?_
 go_wp2_with fail
 refine bodyPost_ret (v:=.agg #[.int .i64 m.1,.slice an nm kn,.slice ab pq.1.length kb,.slice aa pq.2.1.length ka,.int .i64 pq.2.2.k,.int .i64 pq.2.2.a,.slice xf pq.2.2.sub.length kf]) (by simp [results,Tryz.results11,go_sem,j0,j1,j2,j3,j4,j5,j6]) rfl ?_
 have hs1:=HS1.out
 have sz3:=SZ3.out
 have hxf:Ext w (Att.putL w4 (w.heap.size+1) 0 [.int .i64 m.1,.slice an nm kn,.slice ab pq.1.length kb,.slice aa pq.2.1.length ka,.int .i64 pq.2.2.k,.int .i64 pq.2.2.a,.slice xf pq.2.2.sub.length kf]):=putL_below oM [.int .i64 m.1,.slice an nm kn,.slice ab pq.1.length kb,.slice aa pq.2.1.length ka,.int .i64 pq.2.2.k,.int .i64 pq.2.2.a,.slice xf pq.2.2.sub.length kf] 0 (eT b1 XE)
 refine hR.out _ _ (Gives.mk hxf ⟨_,_,_,_,_,_,rfl,?_,?_⟩)
 ·exact OwnNetG.rd (OwnNetG.putT P3.out (R2.out.ext XE) dC dC dC dC 0 [_,_,_,_,_,_,_]) hxf
 exact OwnPf.rd (OwnPf.putT P4.out (R2.out.ext XE) dC dC 0 [_,_,_,_,_,_,_] (fun g hg=>by omega) (fun _ _ h=>OwnE.putS h (R2.out.ext XE) dC 0 [_,_,_,_,_,_,_]) (fun _ _ h=>OwnBt.putT h (R2.out.ext XE) dC dC 0 [_,_,_,_,_,_,_])) (fun _ _ h=>h) (fun _ _ h=>h)
end Go.Proofs.YtmlhccajicmpfaaGreat

namespace Go.Att
open Go.RowKit
theorem Pw.dropN {α:Type} {k:Nat} {R:List Value→α→Prop}:∀ {E:List (List Value)} {l:List α} (m:Nat),Pw k R E l→Pw k R (E.drop m) (l.drop m)
 | _,_,0,h=>h
 | [],[],_+1,_=>trivial
 | _ :: E,_ :: l,m+1,h=>Pw.dropN (E:=E) (l:=l) m h.2
 | [],_ :: _,_,h=>h.elim
 | _ :: _,[],_,h=>h.elim
theorem flat_dropN {k:Nat}:∀ {E:List (List Value)} (m:Nat),(∀ c∈E,c.length=k)→(E.drop m).flatten=E.flatten.drop (m*k)
 | E,0,_=>by rw [Nat.zero_mul];rfl
 | [],m+1,_=>by simp
 | c :: E,m+1,h=>by
  rw [List.drop_succ_cons,flat_dropN m fun d hd=>h d (List.mem_cons_of_mem _ hd),List.flatten_cons,Nat.succ_mul,Nat.add_comm,← List.drop_drop,← h c List.mem_cons_self,List.drop_left]
theorem RdRow.fromN {α:Type} {k:Nat} {T:World→Value→α→Prop} {w:World} {g n c:Nat} {l:List α} (h:RdRow k T w (.slice (some ⟨g,0,none⟩) n c) l) {m:Nat} (hm:m≤n):RdRow k T w (.slice (if c=m then some ⟨g,0,none⟩ else some ⟨g,m*k,none⟩) (n - m) (c - m)) (l.drop m):=by
 obtain ⟨E,⟨h0,a,c',hv,h1,h2,h3,h5⟩,hp⟩:=h
 simp only [Value.slice.injEq] at hv
 obtain ⟨rfl,rfl,rfl⟩:=hv
 have hf:=flat_dropN m hp.all
 refine ⟨E.drop m,?_,hp.dropN m⟩
 rw [hf]
 refine ⟨by rw [List.length_drop,List.length_drop,h0,Nat.sub_mul],_,_,by rw [List.length_drop],by rw [List.length_drop];omega,by omega,?_,fun i hi=>?_⟩
 ·split <;> intro h <;> cases h
 rw [List.length_drop] at hi
 have hne:¬ c=m:=by
  intro e
  have:l.length*k≤m*k:=Nat.mul_le_mul_right k oM
  omega
 rw [if_neg hne]
 obtain ⟨b,off,ha,hc⟩:=h5 (m*k+i) oM
 simp only [Option.some.injEq,Addr.mk.injEq,and_true] at ha
 obtain ⟨rfl,rfl⟩:=ha
 refine ⟨g,m*k,rfl,?_⟩
 rw [List.getElem?_drop,← hc,Nat.zero_add]
theorem OwnRow.at0 {α:Type} {k:Nat} {T:World→Value→α→Prop} {e:TypeId} {B:Nat} {w:World} {v:Value} {l:List α} (h:OwnRow k T e B w v l) (hl:0 < l.length):∃ g c,v=.slice (some ⟨g,0,none⟩) l.length c:=by
 obtain ⟨E,⟨h0,h1⟩,hp⟩:=h
 rcases h1 with ⟨rfl,h2⟩ | ⟨g,cap,cur,hv,-⟩
 ·omega
 exact ⟨g,cap,hv⟩
end Go.Att
namespace Go.Proofs.YtmlhccajicmpfaaGreat
open Go.RowKit Go.Att

theorem thrL_at {ls:List (Lay Rat)} {x:List (Rat × Rat)} {k i:Nat} (h:i < (thrL ls x k).length):(thrL ls x k)[i]=xat ls x i:=by
 have h2:(thrL ls x k)[i]?=some (xat ls x i):=by
  rw [show thrL ls x k=(List.range k).map (xat ls x) from rfl,List.getElem?_map,List.getElem?_range (by rw [thrL_len] at h;exact h)]
  rfl
 obtain ⟨_,h3⟩:=List.getElem?_eq_some_iff.1 h2
 exact h3
theorem thr_ok {m:Nt Rat} {x:List (Rat × Rat)} (h1:0 < wds m.2 m.1) (h2:(x.length:Int)=m.1) (h3:∀ s∈x,s.1≤s.2):thrE m x=0:=by
 unfold thrE
 rw [if_pos h1,if_pos h2,if_pos h3]
def atO (l:List NN):List NN:=(l.take 40).map oneN
def atP (l:List NN):List Rat:=((atO l).take 40).map qN
theorem atO_nlt (l:List NN):∀ p∈atO l,Nlt 1000000000 p:=by
 intro p hp
 obtain ⟨q,-,rfl⟩:=List.mem_map.1 hp
 exact one_nlt _
theorem atP_sz (l:List NN):SzV 8 (atP l):=by
 intro p hp
 obtain ⟨q,hq,rfl⟩:=List.mem_map.1 hp
 obtain ⟨r,-,rfl⟩:=List.mem_map.1 (List.mem_of_mem_take hq)
 exact one_sz _
theorem atP_len (l:List NN):(atP l).length≤40:=by
 unfold atP
 rw [List.length_map,List.length_take]
 omega
theorem prO_nlt (p:Pr (NN × NN) NAT):NltP (prO p):=by
 refine ⟨fun s hs=>?_,fun a ha=>?_⟩
 ·obtain ⟨t,-,rfl⟩:=List.mem_map.1 hs
  exact ⟨one_nlt _,one_nlt _⟩
 obtain ⟨b,-,rfl⟩:=List.mem_map.1 ha
 refine ⟨fun t ht=>?_,one_nlt _⟩
 obtain ⟨u,-,rfl⟩:=List.mem_map.1 ht
 exact one_nlt _
def prP (p:Pr (NN × NN) NAT):Pr (Rat × Rat) AT:=prQ (prO p)
theorem prP_box (p:Pr (NN × NN) NAT):SzR 8 (prP p).1∧(prP p).1.length≤40:=by
 refine ⟨fun s hs=>?_,by show (((prO p).1.take 40).map qND).length≤40;rw [List.length_map,List.length_take];omega⟩
 obtain ⟨t,ht,rfl⟩:=List.mem_map.1 hs
 obtain ⟨u,-,rfl⟩:=List.mem_map.1 (List.mem_of_mem_take ht)
 exact ⟨one_sz _,one_sz _⟩
theorem prP_ats (p:Pr (NN × NN) NAT):(∀ a∈(prP p).2.1,Smx a.1.1 a.1.2)∧(prP p).2.1.length≤210:=by
 refine ⟨fun s hs=>?_,by show (((prO p).2.1.take 210).map atA).length≤210;rw [List.length_map,List.length_take];omega⟩
 obtain ⟨t,ht,rfl⟩:=List.mem_map.1 hs
 obtain ⟨u,-,rfl⟩:=List.mem_map.1 (List.mem_of_mem_take ht)
 refine ⟨tL_len _,fun z hz=>?_,one_sz _⟩
 obtain ⟨y,hy,rfl⟩:=List.mem_map.1 hz
 obtain ⟨v,-,rfl⟩:=List.mem_map.1 (List.mem_of_mem_take hy)
 exact one_sz _
def netK (n:Nt NN) (k:Nat):Nt NN:=(n.1,(n.2.take k).map (mapLay oneN))
theorem netK_lit {n:Nt NN} {k:Nat} (hk:k≤3) (hl:∀ l∈n.2.take k,litL l):(netK n k).2.length≤3∧∀ l∈(netK n k).2,litL l:=by
 refine ⟨by show ((n.2.take k).map _).length≤3;rw [List.length_map,List.length_take];omega,fun l h=>?_⟩
 have h2:lit ((0,n.2.take k):Nt NN):=⟨by show (0:Int)≤4;decide,by show (n.2.take k).length≤3;rw [List.length_take];omega,hl⟩
 exact (h2.map (f:=oneN)).2.2 l h
theorem netK_nlt (n:Nt NN) (k:Nat):∀ l∈(netK n k).2,(∀ r∈l.W,∀ p∈r,Nlt 1000000000 p)∧∀ p∈l.B,Nlt 1000000000 p:=netO_nlt (n.1,n.2.take k)
theorem netK_all {n:Nt NN} {k:Nat} (h:n.2.take k=n.2):mapNet qN (netK n k)=netQ n:=by
 unfold netK
 rw [h]
 rfl
theorem trc_at {ls:List (Lay Rat)} {p:List Rat} {j:Nat}:∀ {m i:Nat},i < m→(hj:j < (vat ls p i).length)→(trcL ls p m).flatten[(trcL ls p i).flatten.length+j]?=some (vat ls p i)[j]
 | m+1,i,hi,hj=>by
  rw [trcL_succ,List.flatten_append]
  by_cases he:i=m
  ·subst he
   rw [List.getElem?_append_right oM,Nat.add_sub_cancel_left]
   simp [hj]
  have ih:=trc_at (m:=m) (i:=i) (j:=j) oM hj
  rw [List.getElem?_append_left]
  ·exact ih
  obtain ⟨h,-⟩:=List.getElem?_eq_some_iff.1 ih
  exact h
theorem trc_bs {ls:List (Lay Rat)} {w:Int} {x:List (Rat × Rat)} {p:List Rat} (h:0 < wds ls w) (hx:(x.length:Int)=w) (hi:InR x p):∀ k,k≤ls.length+1→((trcL ls p k).flatten.length:Int)=bsN ls w k
 | 0,_=>rfl
 | k+1,hk=>by
  rw [trcL_succ,List.flatten_append,List.length_append,bsN]
  have h1:=trc_bs h hx hi k oM
  have h2:=vat_len h hx hi k oM
  simp only [List.flatten_cons,List.flatten_nil,List.append_nil]
  omega
theorem trc_drop {ls:List (Lay Rat)} {p:List Rat} {n:Nat}:(trcL ls p (n+1)).flatten.drop (trcL ls p n).flatten.length=vat ls p n:=by
 rw [trcL_succ,List.flatten_append,List.drop_left]
 simp
theorem phs_mid:phs ((-1:Int):Rat) ((1:Int):Rat)=0:=by decide +kernel
theorem phs_one:phs ((1:Int):Rat) ((1:Int):Rat)=1:=by decide +kernel
theorem checks {B:List (Rat × Rat)} {A:List AT} {f:Fm} {i o:Int} (h:PrOk (B,A,(tldF f 20002).1) i o):PrOk (B,A,f) i o∧(tldF f 20002).1=f∧frmF f A.length=true∧szF f≤20000:=by
 have h1:=h.1
 dsimp only at h1
 have hz:=chkF_zero h1
 have he:=tld_same hz.1
 rw [he] at h hz
 exact ⟨h,he,hz.2.1,hz.2.2⟩
open Go.ChangeShapes Go.WideShapes Go.ChangeAt Go.RowKit Go.Att

theorem bulk_one {H:Type} (d:DataW H):1≤Rows.uptoBulk d:=by
 cases d with
 | lit l=>cases l <;> simp [Rows.uptoBulk]
 | _=>simp [Rows.uptoBulk]
theorem bulk_len {H:Type} (l:List (DataW H)):l.length≤Rows.uptoBulkAll l:=by
 induction l with
 | nil=>simp [Rows.uptoBulkAll]
 | cons x r ih=>have:=bulk_one x;simp only [Rows.uptoBulkAll,List.length_cons];omega
theorem bulk_small {H:Type} {l:List (DataW H)} (hk:Rows.uptoSmall H l=true):Rows.uptoBulkAll l≤1048576:=of_decide_eq_true hk
theorem bulk_cons {H:Type} (d:DataW H) (l:List (DataW H)):Rows.uptoBulkAll (d :: l)=Rows.uptoBulk d+Rows.uptoBulkAll l:=by simp only [Rows.uptoBulkAll]
theorem bulk_nil {H:Type}:Rows.uptoBulkAll ([]:List (DataW H))=0:=by simp only [Rows.uptoBulkAll]

theorem nats_of {H:Type} {enc:TypeId × Value→H} {P:Program} {W:World} {spare:Nat→Bool} {held:Bool} {t e:TypeId} {k:IntKind} {a0:Option Addr} {len0 cap0 fuel:Nat} {d:DataW H} {ps:List MemPlace}
  (ht:P.underlying t=some (.slice e)) (he:P.underlying e=some (.int k)) (hc:P.cellsOf e=1) (hk:k.signed=false) (hf:DataW.trod enc P W 0 spare held fuel t [.slice a0 len0 cap0]=some (d,ps)):
  ∃ xs:List Nat,RdI k W (.slice a0 len0 cap0) xs∧Fit (2 ^ k.bits) xs∧xs.length+1≤Rows.uptoBulk d:=by
 rcases open_ints ht he hc hf with ⟨hcs,hx⟩ | ⟨x,l,c,zs,hcs,_,hl,hm,hz,hx,hcell,hwz⟩
 ·simp at hcs
  obtain ⟨rfl,rfl,rfl⟩:=hcs
  exact ⟨[],RdI.nil _ _,Fit.nil _,bulk_one d⟩
 simp at hcs
 obtain ⟨rfl,rfl,rfl⟩:=hcs
 simp only [Prod.mk.injEq] at hx
 obtain ⟨rfl,_⟩:=hx
 have hlen:len0≤zs.length:=by rw [hz];split <;> omega
 have hwf:∀ n∈zs,0≤n∧n < 2 ^ k.bits:=by
  intro n hn
  have:=hwz n hn
  cases k <;> simp [IntKind.signed] at hk <;> simp [Lit.wf,IntKind.min,IntKind.max,IntKind.bits,IntKind.signed] at this ⊢ <;> omega
 have hl2:(zs.take len0).length=len0:=by rw [List.length_take];omega
 refine ⟨(zs.take len0).map Int.toNat,?_,?_,?_⟩
 ·unfold RdI RdV
  rw [len_ints,List.length_map,hl2,Nat.mul_one]
  refine ⟨rfl,some x,cap0,rfl,hl,hm,(fun h=>by cases h),fun i hi=>?_⟩
  have hci:=hcell i oM
  have hsp:x=⟨x.block,x.off,none⟩:=by
   have h0:=hcell 0 oM
   obtain ⟨b,o,sp⟩:=x
   cases sp with
   | none=>rfl
   | some s=>
    simp [Addr.add,World.cell?] at h0
    split at h0 <;> simp at h0
  refine ⟨x.block,x.off,by rw [← hsp],?_⟩
  rw [hsp,Addr.add_lit] at hci
  rw [hci]
  simp [ints,hi,List.getD]
  have hi2:i < zs.length:=by omega
  rw [List.getElem?_eq_getElem hi2]
  have:=hwf zs[i] (List.getElem_mem hi2)
  simp
  omega
 ·intro y hy
  obtain ⟨n,hn,rfl⟩:=List.mem_map.1 hy
  have:=hwf n (List.mem_of_mem_take hn)
  have e:((2 ^ k.bits:Nat):Int)=2 ^ k.bits:=by simp
  omega
 rw [List.length_map]
 simp only [Rows.uptoBulk]
 have:=bulk_len (H:=H) (lits k (zs.take len0))
 simp [lits] at this ⊢
 omega
theorem open_nats {H:Type} {enc:TypeId × Value→H} {P:Program} {W:World} {spare:Nat→Bool} {held:Bool} {t e:TypeId} {k:IntKind} {v:Value} {r:Reach} {b0:Nat} {d:DataW H} {ps:List MemPlace}
  (ht:P.underlying t=some (.slice e)) (he:P.underlying e=some (.int k)) (hc:P.cellsOf e=1) (hk:k.signed=false) (hval:Value.okWide P W r b0 t v) (h:DataW.Trod enc P W 0 spare held t v d ps):
  ∃ xs:List Nat,RdI k W v xs∧Fit (2 ^ k.bits) xs∧xs.length+1≤Rows.uptoBulk d:=by
 obtain ⟨a0,len0,cap0,rfl⟩:=okWide_slice ht hval
 obtain ⟨fuel,hf⟩:=h
 exact nats_of ht he hc hk (by simpa [Value.cells] using hf)
end Go.Proofs.YtmlhccajicmpfaaGreat
