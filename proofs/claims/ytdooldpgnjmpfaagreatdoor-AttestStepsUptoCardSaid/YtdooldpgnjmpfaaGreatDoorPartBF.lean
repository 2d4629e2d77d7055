/- A group of texts: PRefCut, PRefWord, PRefCopy, PRefSame, PRefOf, PRefTo, PRefCmp, PRefSub, PRefAdd, PRefShl, PRef3Mul, PRef3DivMod, PRef3Gcd -/
import Derived.Test.YtdooldpgnjmpfaaGreatDoorPartAE
import Derived.Lib.Small
import Derived.Lib.Walk
import Derived.Test.YtdooldpgnjmpfaaGreatDoorPartAA
import Derived.Deep.LoopGhost
namespace Go.Proofs.YtdooldpgnjmpfaaGreatDoor
open Go.RowKit Go.Att

theorem etB:ElemT Tryz.prog 28 4 (.bool false) 1 1:=ElemT.mk' Tryz.underlying28 (by kernel_rfl) rfl (by decide)

theorem Cut_any {w:World} {v:Value} {bs:List Bool} (hv:RdB w v bs):
  Calls Tryz.prog 78 #[v] w fun e w'=>∃ a n cap,v=.slice a bs.length cap∧e=.returned (.slice a n cap)∧w=w'∧n≤bs.length∧bs.take n=bitsOf (bval bs):=by
 refine via fun R hR=>?_
 have HV:=Lib.hid hv
 obtain ⟨a,cap,rfl,hlc,hcm,_,hcell⟩:=hv.shape
 have HC:=Lib.hid hcell
 clear hcell hv
 unfold maxLen at hcm
 go_enter Tryz.func78,Tryz.ntmps78
 go_wp2
 go_loop [3] (fun s=>∃ n:Nat,n≤bs.length∧Hid (∀ i,n≤i→i < bs.length→nthB bs i=false)∧s=.int .i64 n) (fun s=>(intOf s).toNat)
 case atStart=>exact ⟨bs.length,Nat.le_refl _,fun i h h'=>by omega,rfl⟩
 case round=>
  obtain ⟨n,hn,hz,rfl⟩:=hrel
  have fin:(n=0∨nthB bs (n - 1)=true)→R (.returned (.slice a n cap)) w:=by
   intro hl
   exact hR.out _ _ ⟨a,n,cap,rfl,rfl,rfl,hn,take_bits hn hz.out hl⟩
  have FIN:=Lib.hid fin
  clear fin
  by_cases h0:n=0
  ·have h0':n≤0:=by omega
   have H0:=Lib.hid h0
   clear h0
   go_wp2
   have h:=FIN.out (.inl H0.out)
   rw [H0.out] at h
   exact h
  ·obtain ⟨b,off,rfl,hc⟩:=HC.out (n - 1) (by omega)
   cases hb:nthB bs (n - 1)
   ·rw [hb] at hc
    have HB:=Lib.hid hb
    clear hb
    go_wp2
    go_round
    case rel=>
     refine ⟨n - 1,by omega,fun i h h'=>?_,by go_num⟩
     by_cases hi:i=n - 1
     ·rw [hi];exact HB.out
     ·exact hz.out i (by omega) h'
    case measure=>simp [intOf] <;> omega
   ·rw [hb] at hc
    have HB:=Lib.hid hb
    clear hb
    go_wp2
    all_goals exact FIN.out (.inr HB.out)

theorem CutOwn {w:World} {B:Nat} {v:Value} {bs:List Bool} (hv:OwnB 4 B w v bs):
  Calls Tryz.prog 78 #[v] w fun e w'=>∃ v',e=.returned v'∧w=w'∧OwnB 4 B w' v' (bitsOf (bval bs)):=by
 refine (Cut_any hv.rd).mono ?_
 rintro e w' ⟨a,n,cap,rfl,rfl,rfl,hn,ht⟩
 refine ⟨_,rfl,rfl,?_⟩
 rw [← ht]
 exact OwnB.take hv rfl hn
open Go.RowKit Go.Att

theorem rWord_any {w:World} (u:Nat) (hu:u≤18446744073709551615):
  Calls Tryz.prog 96 #[.int .u64 u] w (Gives w fun v' w'=>OwnB 4 w.heap.size w' v' (bitsOf u)):=by
 refine via fun R hR=>?_
 have HU:=Lib.hid ((bitsOf_len u 64).2 (by omega))
 go_enter Tryz.func96,Tryz.ntmps96
 go_wp2
 go_loopw [0,3] (fun n out wr=>∃ (m:Nat) (o:List Bool),n=.int .u64 m∧m≤u∧Hid (OwnB 4 w.heap.size wr out o)∧Hid (o ++ bitsOf m=bitsOf u)∧Ext w wr) (fun n _ _=>(intOf n).toNat)
 case atStart=>exact ⟨u,[],rfl,Nat.le_refl _,World.ownsRow_lit w #[] 0 (Nat.le_refl _) (Nat.zero_le _) rfl,by simp [Hid],Ext.alloc _ _⟩
 case round=>
  obtain ⟨m,o,rfl,hm,hO,hinv,hbel⟩:=hrel
  have hsz:=hbel.size
  have hol:o.length≤64:=by
   have h1:=congrArg List.length hinv.out
   have h2:=HU.out
   rw [List.length_append] at h1
   omega
  by_cases h0:m=0
  ·have h0':m≤0:=by omega
   have E:Hid (o=bitsOf u):=by
    have h:=hinv.out
    rw [h0,bitsOf_zero,List.append_nil] at h
    exact h
   clear h0
   go_wp2
   exact hR.out _ _ (Gives.mk hbel (by rw [← E.out];exact hO.out))
  ·have hpos:0 < m:=by omega
   have HN:=Lib.hid (word_step m o u hinv.out h0)
   clear h0
   go_wp2_with (at_builtin;refine append_rd etB rfl _ _ rfl w.heap.size rfl (Ext.owns (Ext.alloc _ _) hO.out) rfl (RdV.lit _ _ _ _ 1 rfl (by unfold maxLen;omega)) (by intro u hu;simp at hu;subst hu;rfl) (by omega) (by unfold maxLen;omega) (by simp;omega) ?_)
   intro v2 w2 ho2 hb2 _
   have HO2:=Lib.hid ho2
   clear ho2
   go_wp2
   go_roundw
   case rel=>exact ⟨m / 2,o ++ [m % 2 == 1],by go_num,by omega,OwnB.snoc HO2.out rfl (bit_dec m),HN.out,Below.trans (Below.alloc hbel hsz _) hb2⟩
   case measure=>simp [intOf] <;> omega
open Go.RowKit Go.Att

theorem Copy_any {w:World} {v:Value} {xs:List Nat} (hv:RdL w v xs) (hl:xs.length≤17592186044416):
  Calls Tryz.prog 64 #[v] w (Gives w fun v' w'=>OwnL 119 w.heap.size w' v' xs):=by
 refine via fun R hR=>?_
 have HV:=Lib.hid hv
 clear hv
 go_enter Tryz.func64,Tryz.ntmps64
 go_wp2_with (at_builtin;refine append_rd et32 rfl _ _ rfl w.heap.size rfl (World.ownsRow_lit w #[] 0 (Nat.le_refl _) (Nat.zero_le _) rfl) rfl (RdV.ext HV.out.1 (Ext.alloc _ _)) (ints_one _ _) (by omega) (by unfold maxLen;omega) (by simp) ?_)
 intro v2 w2 ho2 hb2 _
 have HO2:=Lib.hid ho2
 clear ho2
 go_wp2
 exact hR.out _ _ (Gives.mk (Below.trans (Ext.alloc _ _) hb2) ⟨HO2.out,HV.out.2⟩)
open Go.RowKit Go.Att

open Go.RowKit Go.Att

theorem Of_any {w:World} {v:Value} {xs:List Nat} (hv:RdL w v xs) (hl:xs.length≤34359738368):
  Calls Tryz.prog 45 #[v] w (Gives w fun v' w'=>OwnB 4 w.heap.size w' v' (bitsOf (nv xs))):=by
 refine via fun R hR=>?_
 have HV:=Lib.hid hv
 obtain ⟨a,cap,rfl,hlc,hcm,_,hcell⟩:=hv.1.shape
 have HC:=Lib.hid hcell
 clear hcell hv
 unfold maxLen at hcm
 go_enter Tryz.func45,Tryz.ntmps45
 go_wp2
 go_loopw [3,5,6,10] (fun b _ _ i wr=>∃ (k:Nat) (o:List Bool),i=.int .i64 k∧k≤xs.length∧o.length=32*k∧Hid (OwnB 4 w.heap.size wr b o)∧Hid (bval o=nv (xs.take k))∧Ext w wr) (fun _ _ _ i _=>xs.length - (intOf i).toNat)
 case atStart=>exact ⟨0,[],rfl,Nat.zero_le _,rfl,World.ownsRow_lit w #[] 0 (Nat.le_refl _) (Nat.zero_le _) rfl,by simp [Hid,nv,val,bval_nil],Ext.alloc _ _⟩
 case round=>
  obtain ⟨k,o,rfl,hk,hol,hO,hinv,hbel⟩:=hrel
  have hsz:=hbel.size
  by_cases hlt:k < xs.length
  ·obtain ⟨ba,oa,rfl,hc⟩:=HC.out k hlt
   have hc2:=Ext.cell hbel hc
   have FA:=HV.out.2.nth32 k
   clear hc
   go_wp2
   obtain ⟨wo,rfl⟩:∃ wo:World,wo=wr:=⟨_,rfl⟩
   go_loopw [3,5,6] (fun b x i wr=>∃ (n:Nat) (o:List Bool) (ww:Nat),i=.int .i64 n∧n≤32∧o.length=32*k+n∧x=.int .u32 ww∧ww≤4294967295∧Hid (ww=nth xs k / 2 ^ n)∧Hid (OwnB 4 w.heap.size wr b o)∧Hid (bval o=nv (xs.take k)+2 ^ (32*k)*(nth xs k % 2 ^ n))∧Ext w wr) (fun _ _ i _=>32 - (intOf i).toNat)
   case atStart=>exact ⟨0,o,nth xs k,rfl,by omega,by omega,rfl,FA,by simp [Hid],hO,by simp [Hid,Nat.mod_one];exact hinv.out,hbel⟩
   case round=>
    obtain ⟨n,o2,ww,rfl,hn,hol2,rfl,hww,hw2,hO2,hinv2,hbel2⟩:=hrel
    have hsz2:=hbel2.size
    clear hbel hc2 hsz
    by_cases hlt2:n < 32
    ·go_wp2_with (at_builtin;refine append_rd etB rfl _ _ rfl w.heap.size rfl (Ext.owns (Ext.alloc _ _) hO2.out) rfl (RdV.lit _ _ _ _ 1 rfl (by unfold maxLen;omega)) (by intro u hu;simp at hu;subst hu;rfl) (by omega) (by unfold maxLen;omega) (by simp;omega) ?_)
     intro v2 w2 ho2 hb2 _
     have HO2:=Lib.hid ho2
     clear ho2
     go_wp2
     go_roundw
     case rel=>exact ⟨n+1,o2 ++ [ww % 2 == 1],ww / 2,by go_num,by omega,by simp;omega,by go_num,by omega,by rw [hw2.out,Nat.pow_succ,Nat.div_div_eq_div_mul];rfl,OwnB.snoc HO2.out (by omega) (bit_dec ww),of_inner hol2 hinv2.out hw2.out,Below.trans (Below.alloc hbel2 hsz2 _) hb2⟩
     case measure=>simp [intOf] <;> omega
    ·go_wp2
     go_roundw
     case rel=>
      obtain rfl:n=32:=by omega
      exact ⟨k+1,o2,by go_num,by omega,by omega,hO2,by rw [← of_outer FA];exact hinv2.out,hbel2⟩
     case measure=>simp [intOf] <;> omega
  ·have E:Hid (bval o=nv xs):=by
    show _=_
    have h:=hinv.out
    unfold nv at h
    rw [val_take_ge _ _ _ (by omega)] at h
    exact h
   go_wp2_with (go_at_call 78;refine (CutOwn hO.out).mono ?_;rintro e w3 ⟨v3,rfl,rfl,ho3⟩)
   have HO3:=Lib.hid ho3
   clear ho3
   go_wp2
   have ho4:=HO3.out
   rw [E.out] at ho4
   exact hR.out _ _ (Gives.mk hbel ho4)
open Go.RowKit Go.Att

open Go.RowKit Go.Att

theorem rCmp_any {w:World} {va vb:Value} (x y:Nat) (ha:RdB w va (bitsOf x)) (hb:RdB w vb (bitsOf y)):
  Calls Tryz.prog 105 #[va,vb] w (Gives w fun v' _=>v'=.int .i64 (cmpN x y)):=by
 refine via fun R hR=>?_
 obtain ⟨a,ca,rfl,hla,hma,_,hca⟩:=ha.shape
 obtain ⟨b,cb,rfl,hlb,hmb,_,hcb⟩:=hb.shape
 have HCA:=Lib.hid hca
 have HCB:=Lib.hid hcb
 clear hca hcb ha hb
 unfold maxLen at hma hmb
 have fin:∀ c:Int,cmpN x y=c→∀ w',Ext w w'→R (.returned (.int .i64 c)) w':=fun c hc w' hw=>hR.out _ _ (Gives.mk hw (by rw [hc]))
 have FIN:=Lib.hid fin
 clear fin
 by_cases hlen:(bitsOf x).length=(bitsOf y).length
 ·have HL:=Lib.hid hlen
  have hne:(((bitsOf x).length:Int) != ((bitsOf y).length:Int))=false:=bneF (by omega)
  have hle:(bitsOf x).length≤(bitsOf y).length∧(bitsOf y).length≤(bitsOf x).length:=by omega
  obtain ⟨hle1,hle2⟩:=hle
  clear hlen
  go_enter Tryz.func105,Tryz.ntmps105
  go_wp2
  go_loopw [5] (fun s wr=>∃ k:Nat,k≤(bitsOf x).length∧Hid (SameFromB (bitsOf x) (bitsOf y) k)∧s=.int .i64 ((k:Int) - 1)∧Ext w wr) (fun s _=>(intOf s+1).toNat)
  case atStart=>exact ⟨_,Nat.le_refl _,fun j h1 h2=>by omega,rfl,Ext.refl _⟩
  case round=>
   obtain ⟨k,hk,hs,rfl,hext⟩:=hrel
   by_cases hk0:k=0
   ·have hk1:k≤0:=by omega
    have hs0:SameFromB (bitsOf x) (bitsOf y) 0:=by have h:=hs.out;rwa [hk0] at h
    have E:=Lib.hid (bcmp_end HL.out hs0)
    clear hk0 hs0
    go_wp2
    all_goals exact FIN.out _ E.out _ hext
   ·obtain ⟨j,rfl⟩:∃ j,k=j+1:=⟨k - 1,by omega⟩
    obtain ⟨ba,oa,rfl,hca⟩:=HCA.out j (by omega)
    obtain ⟨bb,ob,rfl,hcb⟩:=HCB.out j (by omega)
    have hca':=hext.cell hca
    have hcb':=hext.cell hcb
    clear hca hcb
    cases hA:nthB (bitsOf x) j <;> cases hB:nthB (bitsOf y) j <;> rw [hA] at hca' <;> rw [hB] at hcb'
    ·have HE:=Lib.hid (hA.trans hB.symm)
     clear hA hB
     go_wp2
     go_region
     all_goals
      go_wp2
      go_roundw
      case rel=>
       refine ⟨j,by omega,fun i h1 h2=>?_,rfl,hext.drew⟩
       by_cases hi:i=j
       ·rw [hi];exact HE.out
       ·exact hs.out i (by omega) h2
      case measure=>simp [intOf] <;> omega
    ·have E:=Lib.hid (bcmp_lt HL.out (by omega) hs.out hA hB)
     clear hA hB
     go_wp2
     go_region
     all_goals
      go_wp2
      all_goals exact FIN.out _ E.out _ hext.drew
    ·have E:=Lib.hid (bcmp_gt HL.out (by omega) hs.out hA hB)
     clear hA hB
     go_wp2
     go_region
     all_goals
      go_wp2
      all_goals exact FIN.out _ E.out _ hext.drew
    ·have HE:=Lib.hid (hA.trans hB.symm)
     clear hA hB
     go_wp2
     go_region
     all_goals
      go_wp2
      go_roundw
      case rel=>
       refine ⟨j,by omega,fun i h1 h2=>?_,rfl,hext.drew⟩
       by_cases hi:i=j
       ·rw [hi];exact HE.out
       ·exact hs.out i (by omega) h2
      case measure=>simp [intOf] <;> omega
 ·rcases Nat.lt_or_gt_of_ne hlen with h | h
  ·have E:=Lib.hid (cmpN_lt (bcmp_len h))
   have hne:(((bitsOf x).length:Int) != ((bitsOf y).length:Int))=true:=bneT (by omega)
   clear hlen
   go_enter Tryz.func105,Tryz.ntmps105
   go_wp2
   all_goals exact FIN.out _ E.out _ (Ext.refl _)
  ·have E:=Lib.hid (cmpN_gt (bcmp_len h))
   have hne:(((bitsOf x).length:Int) != ((bitsOf y).length:Int))=true:=bneT (by omega)
   clear hlen
   go_enter Tryz.func105,Tryz.ntmps105
   go_wp2
   all_goals exact FIN.out _ E.out _ (Ext.refl _)
open Go.RowKit Go.Att

theorem rSub_any {w:World} {va vb:Value} {xa xb:List Bool} (ha:RdB w va xa) (hb:RdB w vb xb) (hle:bval xb≤bval xa) (hl:xa.length≤1099511627776):
  Calls Tryz.prog 106 #[va,vb] w (Gives w fun v' w'=>OwnB 4 w.heap.size w' v' (bitsOf (bval xa - bval xb))):=by
 refine via fun R hR=>?_
 have HLE:=Lib.hid hle
 obtain ⟨a,ca,rfl,hla,hma,_,hca⟩:=ha.shape
 obtain ⟨b,cb,rfl,hlb,hmb,_,hcb⟩:=hb.shape
 have HCA:=Lib.hid hca
 have HCB:=Lib.hid hcb
 clear hca hcb ha hb hle
 unfold maxLen at hma hmb
 go_enter Tryz.func106,Tryz.ntmps106
 go_wp2
 go_loopw [5,6,12] (fun out c i wr=>∃ (k:Nat) (o:List Bool) (cc:Nat),i=.int .i64 k∧k≤xa.length∧o.length=k∧c=.int .i64 cc∧cc≤1∧Hid (OwnB 4 w.heap.size wr out o)∧Hid (bval (xa.take k)+2 ^ k*cc=bval o+bval (xb.take k))∧Ext w wr) (fun _ _ i _=>xa.length - (intOf i).toNat)
 case atStart=>exact ⟨0,[],0,rfl,Nat.zero_le _,rfl,rfl,by omega,World.ownsRow_lit w #[] 0 (Nat.le_refl _) (Nat.zero_le _) rfl,by simp [Hid,bval_nil],Ext.alloc _ _⟩
 case round=>
  obtain ⟨k,o,c,rfl,hk,hol,rfl,hc1,hO,hinv,hbel⟩:=hrel
  have HOL:=Lib.hid hol
  have hol2:o.length≤k:=by omega
  have hsz:=hbel.size
  clear hol
  by_cases hlt:k < xa.length
  ·obtain ⟨ba,oa,rfl,hca⟩:=HCA.out k hlt
   have hca':=Ext.cell hbel hca
   clear hca
   have fin:∀ (A:Bool) (y:Bool) (c':Nat) (d:Bool) (v2:Value) (w2:World) (e:Value),nthB xa k=A→nthB xb k=y→A.toNat+2*c'=d.toNat+c+y.toNat→w2.ownsRow w.heap.size 4 1 v2 (o.length+1) (bools o ++ [.bool d])→Below w.heap.size (wr.alloc (.cells #[e] 4)) w2→c'≤1→
     ∃ (k':Nat) (o':List Bool) (cc:Nat),(Value.int .i64 ((k:Int)+1))=.int .i64 k'∧k'≤xa.length∧o'.length=k'∧(Value.int .i64 c')=.int .i64 cc∧cc≤1∧Hid (OwnB 4 w.heap.size w2 v2 o')∧Hid (bval (xa.take k')+2 ^ k'*cc=bval o'+bval (xb.take k'))∧Ext w w2:=by
    intro A y c' d v2 w2 e hA hy hd ho hb hc'
    subst hy hA
    exact ⟨k+1,o ++ [d],c',by go_num,by omega,by simp;exact HOL.out,rfl,hc',OwnB.snoc ho rfl rfl,bsub_step HOL.out hinv.out hd,Below.trans (Below.alloc hbel hsz _) hb⟩
   have FIN:=Lib.hid fin
   clear fin
   have hc2:c=0∨c=1:=by omega
   by_cases hlt2:k < xb.length
   ·obtain ⟨bb,ob,rfl,hcb⟩:=HCB.out k hlt2
    have hcb':=Ext.cell hbel hcb
    clear hcb
    cases hA:nthB xa k <;> cases hB:nthB xb k <;> rw [hA] at hca' <;> rw [hB] at hcb' <;> rcases hc2 with rfl | rfl
    all_goals
     have HA:=Lib.hid hA
     have HB:=Lib.hid hB
     clear hA hB
     go_wp2_with (at_builtin;refine append_rd etB rfl _ _ rfl w.heap.size rfl (Ext.owns (Ext.alloc _ _) hO.out) rfl (RdV.lit _ _ _ _ 1 rfl (by unfold maxLen;omega)) (by intro u hu;simp at hu;subst hu;rfl) (by omega) (by unfold maxLen;omega) (by simp;omega) ?_)
     intro v2 w2 ho2 hb2 _
     have HO2:=Lib.hid ho2
     clear ho2
     go_wp2
     go_roundw
     case rel=>
      first
       | exact FIN.out _ _ 0 false _ _ _ HA.out HB.out (by decide) HO2.out hb2 (by omega)
       | exact FIN.out _ _ 0 true _ _ _ HA.out HB.out (by decide) HO2.out hb2 (by omega)
       | exact FIN.out _ _ 1 false _ _ _ HA.out HB.out (by decide) HO2.out hb2 (by omega)
       | exact FIN.out _ _ 1 true _ _ _ HA.out HB.out (by decide) HO2.out hb2 (by omega)
     case measure=>simp [intOf] <;> omega
   ·have HB:=Lib.hid (nthB_ge xb k (by omega))
    cases hA:nthB xa k <;> rw [hA] at hca' <;> rcases hc2 with rfl | rfl
    all_goals
     have HA:=Lib.hid hA
     clear hA
     go_wp2_with (at_builtin;refine append_rd etB rfl _ _ rfl w.heap.size rfl (Ext.owns (Ext.alloc _ _) hO.out) rfl (RdV.lit _ _ _ _ 1 rfl (by unfold maxLen;omega)) (by intro u hu;simp at hu;subst hu;rfl) (by omega) (by unfold maxLen;omega) (by simp;omega) ?_)
     intro v2 w2 ho2 hb2 _
     have HO2:=Lib.hid ho2
     clear ho2
     go_wp2
     go_roundw
     case rel=>
      first
       | exact FIN.out _ _ 0 false _ _ _ HA.out HB.out (by decide) HO2.out hb2 (by omega)
       | exact FIN.out _ _ 0 true _ _ _ HA.out HB.out (by decide) HO2.out hb2 (by omega)
       | exact FIN.out _ _ 1 false _ _ _ HA.out HB.out (by decide) HO2.out hb2 (by omega)
       | exact FIN.out _ _ 1 true _ _ _ HA.out HB.out (by decide) HO2.out hb2 (by omega)
     case measure=>simp [intOf] <;> omega
  ·obtain rfl:k=xa.length:=by omega
   have E:=Lib.hid (bsub_end HOL.out HLE.out hinv.out)
   go_wp2_with (go_at_call 78;refine (CutOwn hO.out).mono ?_;rintro e w3 ⟨v3,rfl,rfl,ho3⟩)
   have HO3:=Lib.hid ho3
   clear ho3
   go_wp2
   have ho4:=HO3.out
   rw [E.out] at ho4
   exact hR.out _ _ (Gives.mk hbel ho4)
open Go.RowKit Go.Att

theorem badd_end {o a b:List Bool} {k:Nat} (ha:a.length≤k) (hb:b.length≤k) (hinv:bval o+2 ^ k*0=bval (a.take k)+bval (b.take k)):bval o=bval a+bval b:=by
 rw [bval_take_ge _ _ ha,bval_take_ge _ _ hb] at hinv
 omega

theorem bit_split1 (d:Bool) (c:Nat):((d.toNat+2*c) % 2 == 1)=d:=by cases d <;> simp
theorem bit_split2 (d:Bool) (c:Nat):(d.toNat+2*c) / 2=c:=by cases d <;> simp <;> omega

set_option maxHeartbeats 2000000 in
theorem rAdd_any {w:World} {va vb:Value} {xa xb:List Bool} (ha:RdB w va xa) (hb:RdB w vb xb) (hla0:xa.length≤1099511627776) (hlb0:xb.length≤1099511627776):
  Calls Tryz.prog 95 #[va,vb] w (Gives w fun v' w'=>OwnB 4 w.heap.size w' v' (bitsOf (bval xa+bval xb))):=by
 refine via fun R hR=>?_
 obtain ⟨a,ca,rfl,hla,hma,_,hca⟩:=ha.shape
 obtain ⟨b,cb,rfl,hlb,hmb,_,hcb⟩:=hb.shape
 have HCA:=Lib.hid hca
 have HCB:=Lib.hid hcb
 clear hca hcb ha hb
 unfold maxLen at hma hmb
 obtain ⟨M,hM1,hM2,hM3⟩:∃ M,xa.length≤M∧xb.length≤M∧M≤1099511627776∧(M≤xa.length∨M≤xb.length):=⟨max xa.length xb.length,by omega,by omega,by omega,by omega⟩
 obtain ⟨hM3,hM4⟩:=hM3
 have HM4:=Lib.hid hM4
 clear hM4
 go_enter Tryz.func95,Tryz.ntmps95
 go_wp2
 go_loopw [5,6,7,8] (fun out c i _ wr=>∃ (k:Nat) (o:List Bool) (cc:Nat),i=.int .i64 k∧k+cc≤M+1∧o.length=k∧c=.int .i64 cc∧cc≤1∧Hid (OwnB 4 w.heap.size wr out o)∧Hid (bval o+2 ^ k*cc=bval (xa.take k)+bval (xb.take k))∧Ext w wr) (fun _ c i _ _=>2*(M+1 - (intOf i).toNat)+(intOf c).toNat)
 case atStart=>exact ⟨0,[],0,rfl,Nat.zero_le _,rfl,rfl,by omega,World.ownsRow_lit w #[] 0 (Nat.le_refl _) (Nat.zero_le _) rfl,by simp [Hid,bval_nil],Ext.alloc _ _⟩
 case round=>
  obtain ⟨k,o,c,rfl,hk,hol,rfl,hc1,hO,hinv,hbel⟩:=hrel
  have HOL:=Lib.hid hol
  have hol2:o.length≤k:=by omega
  have hsz:=hbel.size
  clear hol
  have fin:∀ (A:Bool) (y:Bool) (c':Nat) (d:Bool) (v2:Value) (w2:World) (e:Value),nthB xa k=A→nthB xb k=y→c+A.toNat+y.toNat=d.toNat+2*c'→w2.ownsRow w.heap.size 4 1 v2 (o.length+1) (bools o ++ [.bool d])→Below w.heap.size (wr.alloc (.cells #[e] 4)) w2→k+1+c'≤M+1→
    ∃ (k':Nat) (o':List Bool) (cc:Nat),(Value.int .i64 ((k:Int)+1))=.int .i64 k'∧k'+cc≤M+1∧o'.length=k'∧(Value.int .i64 c')=.int .i64 cc∧cc≤1∧Hid (OwnB 4 w.heap.size w2 v2 o')∧Hid (bval o'+2 ^ k'*cc=bval (xa.take k')+bval (xb.take k'))∧Ext w w2:=by
   intro A y c' d v2 w2 e hA hy hd ho hb hc'
   subst hy hA
   have h1:=badd_step HOL.out hinv.out rfl
   rw [hd] at h1
   rw [bit_split1,bit_split2] at h1
   have hc2:c'≤1:=by
    have t1:(nthB xa k).toNat≤1:=by cases nthB xa k <;> decide
    have t2:(nthB xb k).toNat≤1:=by cases nthB xb k <;> decide
    omega
   exact ⟨k+1,o ++ [d],c',by go_num,hc',by simp;exact HOL.out,rfl,hc2,OwnB.snoc ho rfl rfl,h1,Below.trans (Below.alloc hbel hsz _) hb⟩
  have FIN:=Lib.hid fin
  clear fin
  have hc2:c=0∨c=1:=by omega
  by_cases hlt1:k < xa.length <;> by_cases hlt2:k < xb.length
  ·obtain ⟨ba,oa,rfl,hca⟩:=HCA.out k hlt1
   have hca':=Ext.cell hbel hca
   obtain ⟨bb,ob,rfl,hcb⟩:=HCB.out k hlt2
   have hcb':=Ext.cell hbel hcb
   clear hca hcb
   cases hA:nthB xa k <;> cases hB:nthB xb k <;> rw [hA] at hca' <;> rw [hB] at hcb' <;> rcases hc2 with rfl | rfl
   all_goals
    have HA:=Lib.hid hA
    have HB:=Lib.hid hB
    clear hA hB
    go_wp2_with (at_builtin;refine append_rd etB rfl _ _ rfl w.heap.size rfl (Ext.owns (Ext.alloc _ _) hO.out) rfl (RdV.lit _ _ _ _ 1 rfl (by unfold maxLen;omega)) (by intro u hu;simp at hu;subst hu;rfl) (by omega) (by unfold maxLen;omega) (by simp;omega) ?_)
    intro v2 w2 ho2 hb2 _
    have HO2:=Lib.hid ho2
    clear ho2
    go_wp2
    go_roundw
    case rel=>
     first
      | exact FIN.out _ _ 0 false _ _ _ HA.out HB.out (by decide) HO2.out hb2 (by omega)
      | exact FIN.out _ _ 0 true _ _ _ HA.out HB.out (by decide) HO2.out hb2 (by omega)
      | exact FIN.out _ _ 1 false _ _ _ HA.out HB.out (by decide) HO2.out hb2 (by omega)
      | exact FIN.out _ _ 1 true _ _ _ HA.out HB.out (by decide) HO2.out hb2 (by omega)
    case measure=>simp [intOf] <;> omega
  ·obtain ⟨ba,oa,rfl,hca⟩:=HCA.out k hlt1
   have hca':=Ext.cell hbel hca
   clear hca
   have HB:=Lib.hid (nthB_ge xb k (by omega))
   cases hA:nthB xa k <;> rw [hA] at hca' <;> rcases hc2 with rfl | rfl
   all_goals
    have HA:=Lib.hid hA
    clear hA
    go_wp2_with (at_builtin;refine append_rd etB rfl _ _ rfl w.heap.size rfl (Ext.owns (Ext.alloc _ _) hO.out) rfl (RdV.lit _ _ _ _ 1 rfl (by unfold maxLen;omega)) (by intro u hu;simp at hu;subst hu;rfl) (by omega) (by unfold maxLen;omega) (by simp;omega) ?_)
    intro v2 w2 ho2 hb2 _
    have HO2:=Lib.hid ho2
    clear ho2
    go_wp2
    go_roundw
    case rel=>
     first
      | exact FIN.out _ _ 0 false _ _ _ HA.out HB.out (by decide) HO2.out hb2 (by omega)
      | exact FIN.out _ _ 0 true _ _ _ HA.out HB.out (by decide) HO2.out hb2 (by omega)
      | exact FIN.out _ _ 1 false _ _ _ HA.out HB.out (by decide) HO2.out hb2 (by omega)
      | exact FIN.out _ _ 1 true _ _ _ HA.out HB.out (by decide) HO2.out hb2 (by omega)
    case measure=>simp [intOf] <;> omega
  ·obtain ⟨bb,ob,rfl,hcb⟩:=HCB.out k hlt2
   have hcb':=Ext.cell hbel hcb
   clear hcb
   have HA:=Lib.hid (nthB_ge xa k (by omega))
   cases hB:nthB xb k <;> rw [hB] at hcb' <;> rcases hc2 with rfl | rfl
   all_goals
    have HB:=Lib.hid hB
    clear hB
    go_wp2_with (at_builtin;refine append_rd etB rfl _ _ rfl w.heap.size rfl (Ext.owns (Ext.alloc _ _) hO.out) rfl (RdV.lit _ _ _ _ 1 rfl (by unfold maxLen;omega)) (by intro u hu;simp at hu;subst hu;rfl) (by omega) (by unfold maxLen;omega) (by simp;omega) ?_)
    intro v2 w2 ho2 hb2 _
    have HO2:=Lib.hid ho2
    clear ho2
    go_wp2
    go_roundw
    case rel=>
     first
      | exact FIN.out _ _ 0 false _ _ _ HA.out HB.out (by decide) HO2.out hb2 (by omega)
      | exact FIN.out _ _ 0 true _ _ _ HA.out HB.out (by decide) HO2.out hb2 (by omega)
      | exact FIN.out _ _ 1 false _ _ _ HA.out HB.out (by decide) HO2.out hb2 (by omega)
      | exact FIN.out _ _ 1 true _ _ _ HA.out HB.out (by decide) HO2.out hb2 (by omega)
    case measure=>simp [intOf] <;> omega
  ·have HA:=Lib.hid (nthB_ge xa k (by omega))
   have HB:=Lib.hid (nthB_ge xb k (by omega))
   rcases hc2 with rfl | rfl
   ·have E:=Lib.hid (badd_end (by omega) (by omega) hinv.out)
    go_wp2_with (go_at_call 78;refine (CutOwn hO.out).mono ?_;rintro e w3 ⟨v3,rfl,rfl,ho3⟩)
    have HO3:=Lib.hid ho3
    clear ho3
    go_wp2
    have ho4:=HO3.out
    rw [E.out] at ho4
    exact hR.out _ _ (Gives.mk hbel ho4)
   ·go_wp2_with (at_builtin;refine append_rd etB rfl _ _ rfl w.heap.size rfl (Ext.owns (Ext.alloc _ _) hO.out) rfl (RdV.lit _ _ _ _ 1 rfl (by unfold maxLen;omega)) (by intro u hu;simp at hu;subst hu;rfl) (by omega) (by unfold maxLen;omega) (by simp;omega) ?_)
    intro v2 w2 ho2 hb2 _
    have HO2:=Lib.hid ho2
    clear ho2
    go_wp2
    go_roundw
    case rel=>exact FIN.out _ _ 0 true _ _ _ HA.out HB.out (by decide) HO2.out hb2 (by omega)
    case measure=>simp [intOf] <;> omega
open Go.RowKit Go.Att

theorem rShl_any {w:World} {va:Value} {bs:List Bool} (n:Nat) (hn:n≤100000) (ha:RdB w va bs) (hl:bs.length≤1099511627776):
  Calls Tryz.prog 129 #[va,.int .i64 n] w (Gives w fun v' w'=>OwnB 4 w.heap.size w' v' (bitsOf (bval bs*2 ^ n))):=by
 refine via fun R hR=>?_
 have HA:=Lib.hid ha
 clear ha
 go_enter Tryz.func129,Tryz.ntmps129
 go_wp2_with (at_make;refine make_bools etB rfl _ _ rfl _ _ n rfl rfl (by omega) (by unfold maxLen;omega) ?_)
 intro w1 ho hext
 have HO:=Lib.hid ho
 have hsz:=hext.size
 clear ho
 go_wp2_with (at_builtin;refine append_rd etB rfl _ _ rfl w.heap.size rfl HO.out rfl (RdV.ext HA.out hext) (bools_one _) (by rw [len_nays];omega) (by rw [len_nays];unfold maxLen;omega) hsz ?_)
 intro v2 w2 ho2 hb2 _
 have ho3:Hid (OwnB 4 w.heap.size w2 v2 (nays n ++ bs)):=by
  show OwnB _ _ _ _ _
  unfold OwnB
  rw [bools_app,List.length_append]
  exact ho2
 have hb3:=Below.trans hext hb2
 clear ho2
 go_wp2_with (go_at_call 78;refine (CutOwn ho3.out).mono ?_;rintro e w3 ⟨v3,rfl,rfl,ho4⟩)
 have HO4:=Lib.hid ho4
 clear ho4
 go_wp2
 have ho5:=HO4.out
 rw [bval_shl] at ho5
 exact hR.out _ _ (Gives.mk hb3 ho5)
open Go.RowKit Go.Att

theorem bits_of_len {bs:List Bool}:(bitsOf (bval bs)).length≤bs.length:=(bitsOf_len _ _).2 (bval_lt bs)
theorem mul_len {xa xb:List Bool} (k:Nat) (hk:k≤xb.length):(bitsOf (bval xa*bval (xb.take k))).length≤xa.length+xb.length:=by
 refine (bitsOf_len _ _).2 ?_
 have h1:=bval_lt xa
 have h2:=bval_lt (xb.take k)
 have h3:2 ^ (xb.take k).length≤2 ^ xb.length:=Nat.pow_le_pow_right (by decide) (by rw [List.length_take];omega)
 rw [Nat.pow_add]
 exact Nat.mul_lt_mul'' h1 (Nat.lt_of_lt_of_le h2 h3)
theorem mul_bit1 {xa xb:List Bool} {k:Nat} (h:nthB xb k=true):bval xa*bval (xb.take k)+bval xa*2 ^ k=bval xa*bval (xb.take (k+1)):=by
 rw [bval_take_succ,h,Nat.mul_add];simp
theorem mul_bit0 {xa xb:List Bool} {k:Nat} (h:nthB xb k=false):bval xa*bval (xb.take k)=bval xa*bval (xb.take (k+1)):=by
 rw [bval_take_succ,h];simp

theorem r3Mul_any {w:World} {va vb:Value} {xa xb:List Bool} (ha:RdB w va xa) (hb:RdB w vb xb) (hla0:xa.length≤274877906944) (hlb0:xb.length≤100000):
  Calls Tryz.prog 101 #[va,vb] w (Gives w fun v' w'=>OwnB 4 w.heap.size w' v' (bitsOf (bval xa*bval xb))):=by
 refine via fun R hR=>?_
 have HA:=Lib.hid ha
 obtain ⟨b,cb,rfl,hlb,hmb,_,hcb⟩:=hb.shape
 have HCB:=Lib.hid hcb
 clear hcb hb ha
 unfold maxLen at hmb
 go_enter Tryz.func101,Tryz.ntmps101
 go_wp2
 go_loopw [5,10] (fun out i wr=>∃ (k:Nat),i=.int .i64 k∧k≤xb.length∧Hid (OwnB 4 w.heap.size wr out (bitsOf (bval xa*bval (xb.take k))))∧Ext w wr) (fun _ i _=>xb.length - (intOf i).toNat)
 case atStart=>exact ⟨0,rfl,Nat.zero_le _,by rw [List.take_zero,bval_nil,Nat.mul_zero,bitsOf_zero];exact World.ownsRow_lit w #[] 0 (Nat.le_refl _) (Nat.zero_le _) rfl,Ext.alloc _ _⟩
 case round=>
  obtain ⟨k,rfl,hk,hO,hbel⟩:=hrel
  have hsz:=hbel.size
  by_cases hlt:k < xb.length
  ·obtain ⟨bb,ob,rfl,hc⟩:=HCB.out k hlt
   have hc':=Ext.cell hbel hc
   have hml:=Lib.hid (mul_len (xa:=xa) k hk)
   clear hc
   cases hB:nthB xb k <;> rw [hB] at hc'
   ·have E:=Lib.hid (mul_bit0 (xa:=xa) hB)
    clear hB
    go_wp2
    go_roundw
    case rel=>exact ⟨k+1,by go_num,by omega,by rw [← E.out];exact hO.out,hbel⟩
    case measure=>simp [intOf] <;> omega
   ·have E:=Lib.hid (mul_bit1 (xa:=xa) hB)
    clear hB
    go_wp2_with fail
    refine (rShl_any k (by omega) (HA.out.ext hbel) (by omega)).mono ?_
    rintro e w1 ⟨v1,rfl,b1,o1⟩
    have O1:=Lib.hid o1
    clear o1
    go_wp2_with fail
    refine (rAdd_any (hO.out.rd.ext b1) O1.out.rd (by have:=hml.out;omega) (by have:=blen_shl (n:=k) (bits_of_len (bs:=xa));omega)).mono ?_
    rintro e w2 ⟨v2,rfl,b2,o2⟩
    have O2:=Lib.hid o2
    clear o2
    rw [bval_bitsOf,bval_bitsOf,E.out] at O2
    go_wp2
    go_roundw
    case rel=>exact ⟨k+1,by go_num,by omega,OwnB.mono O2.out (by have:=b1.size;omega),Ext.trans hbel (Ext.trans b1 b2)⟩
    case measure=>simp [intOf] <;> omega
  ·have e:Hid (xb.take k=xb):=List.take_of_length_le (by omega)
   go_wp2
   have ho:=hO.out
   rw [e.out] at ho
   exact hR.out _ _ (Gives.mk hbel ho)
open Go.RowKit Go.Att

theorem OwnBset {e:TypeId} {B g n cap:Nat} {w:World} {o:List Bool} (h:OwnB e B w (.slice (some ⟨g,0,none⟩) n cap) o) (i:Nat) (d:Bool):OwnB e B (w.setCell ⟨g,i,none⟩ (.bool d)) (.slice (some ⟨g,0,none⟩) n cap) (o.set i d):=by
 obtain ⟨_,_,h1,_⟩:=h.rd.shape
 simp only [Value.slice.injEq] at h1
 obtain ⟨_,rfl,_⟩:=h1
 have:=(World.ownsRow.stored h i (.bool d)).1
 unfold OwnB
 rw [List.length_set]
 have e:bools (o.set i d)=(bools o).set i (.bool d):=by simp [bools,List.map_set]
 rw [e]
 exact this
theorem OwnBcell {e:TypeId} {B g n cap:Nat} {w:World} {o:List Bool} (h:OwnB e B w (.slice (some ⟨g,0,none⟩) n cap) o) (i:Nat) (hi:i < o.length):w.cell? ⟨g,i,none⟩=some (.bool (nthB o i)):=by
 have:=h.rd.cell i hi
 rwa [Nat.zero_add] at this
theorem OwnBfree {e:TypeId} {B g n cap:Nat} {w:World} {o:List Bool} (h:OwnB e B w (.slice (some ⟨g,0,none⟩) n cap) o) (i:Nat):w.frozen? ⟨g,i,none⟩=false:=by
 obtain ⟨_,_,h1,_⟩:=h.rd.shape
 simp only [Value.slice.injEq] at h1
 obtain ⟨_,rfl,_⟩:=h1
 exact World.ownsRow.frozenAt h i
theorem bdrop_set (q:List Bool) (j:Nat) (d:Bool) (h:j < q.length):bval ((q.set j d).drop j)=d.toNat+2*bval (q.drop (j+1)):=by
 have e:(q.set j d).drop j=d :: q.drop (j+1):=by
  rw [List.drop_eq_getElem_cons (by simpa using h),List.getElem_set_self,List.drop_set]
  simp
 rw [e]
 rfl
theorem bdrop_same (q:List Bool) (j:Nat) (h:j < q.length) (h0:nthB q j=false):bval (q.drop j)=2*bval (q.drop (j+1)):=by
 rw [bval_drop q j h,h0];simp
theorem bdiv_step {a q:List Bool} {j B R d:Nat} {bit:Bool} (hj:j < a.length) (hinv:bval (a.drop (j+1))=B*bval (q.drop (j+1))+R) {R':Nat} (hb:nthB a j=bit) (hR:bit.toNat+2*R=B*d+R'):
  bval (a.drop j)=B*(d+2*bval (q.drop (j+1)))+R':=by
 rw [bval_drop a j hj,hinv,hb,Nat.mul_add,Nat.mul_add]
 have:2*(B*bval (q.drop (j+1)))=B*(2*bval (q.drop (j+1))):=Nat.mul_left_comm _ _ _
 omega
theorem bval_cons (b:Bool) (l:List Bool):bval (b :: l)=b.toNat+2*bval l:=rfl
theorem false_drop {q:List Bool} {m:Nat} (h:q.take m=nays m) (j:Nat) (hj:j < m):nthB q j=false:=by
 have h1:=nthB_take q m j hj
 rw [← h1,h]
 unfold nthB nays
 simp [List.getD,hj]
theorem take_less {q:List Bool} {j:Nat} (h:q.take (j+1)=nays (j+1)):q.take j=nays j:=by
 have:=congrArg (List.take j) h
 rw [List.take_take,Nat.min_eq_left (Nat.le_succ j)] at this
 rw [this]
 unfold nays
 rw [List.take_replicate,Nat.min_eq_left (Nat.le_succ j)]

set_option maxHeartbeats 2000000 in
theorem r3DivMod_any {w:World} {va vb:Value} {xa:List Bool} {B:Nat} (ha:RdB w va xa) (hb:RdB w vb (bitsOf B)) (hB:B≠0) (hla0:xa.length≤274877906944) (hlb0:(bitsOf B).length≤274877906944):
  Calls Tryz.prog 80 #[va,vb] w (Gives w fun v' w'=>∃ q r,v'=.tuple #[q,r]∧OwnB 4 w.heap.size w' q (bitsOf (bval xa / B))∧OwnB 4 w.heap.size w' r (bitsOf (bval xa % B))):=by
 refine via fun R hR=>?_
 have HB:=Lib.hid hb
 have HB0:=Lib.hid hB
 obtain ⟨a,ca,rfl,hca1,hma,_,hca⟩:=ha.shape
 have HCA:=Lib.hid hca
 clear hca hb ha hB
 unfold maxLen at hma
 go_enter Tryz.func80,Tryz.ntmps80
 go_wp2_with (at_make;refine make_bools etB rfl _ _ rfl _ _ xa.length rfl rfl (by omega) (by unfold maxLen;omega) ?_)
 intro w1 o1 b1
 have O1:=Lib.hid o1
 have s1:=b1.size
 clear o1
 go_wp2_with fail
 go_loopw [7,8] (fun r i wr=>∃ (m R:Nat) (o:List Bool),i=.int .i64 ((m:Int) - 1)∧m≤xa.length∧o.length=xa.length∧R < B∧Hid (OwnB 4 w.heap.size wr r (bitsOf R))∧Hid (OwnB 4 w.heap.size wr (.slice (some ⟨w.heap.size,0,none⟩) xa.length xa.length) o)∧Hid (o.take m=nays m)∧Hid (bval (xa.drop m)=B*bval (o.drop m)+R)∧Ext w wr) (fun _ i _=>(intOf i+1).toNat)
 case atStart=>
  have hB1:=HB0.out
  refine ⟨xa.length,0,nays xa.length,rfl,Nat.le_refl _,len_nays _,by omega,?_,OwnB.ext O1.out (Ext.alloc _ _),?_,?_,Ext.trans b1 (Ext.alloc _ _)⟩
  ·rw [bitsOf_zero];exact World.ownsRow_lit w1 #[] 0 (by omega) (Nat.zero_le _) rfl
  ·show _=_;rw [List.take_of_length_le (by rw [len_nays];exact Nat.le_refl _)]
  ·show _=_;rw [List.drop_of_length_le (Nat.le_refl _),List.drop_of_length_le (by rw [len_nays];exact Nat.le_refl _),bval_nil,Nat.mul_zero]
 case round=>
  obtain ⟨m,R0,o,rfl,hm,hol,hR0,hr,hO,htk,hinv,hbel⟩:=hrel
  have hs:=hbel.size
  have HOL:=Lib.hid hol
  have hol1:o.length≤xa.length:=Nat.le_of_eq hol
  have hol2:xa.length≤o.length:=Nat.le_of_eq hol.symm
  have hrl:(bitsOf R0).length≤274877906944:=Nat.le_trans (blen_mono (Nat.le_of_lt hR0)) hlb0
  clear hol b1
  by_cases hlt:0 < m
  ·obtain ⟨j,rfl⟩:∃ j,m=j+1:=⟨m - 1,by omega⟩
   obtain ⟨ba,oa,rfl,hc⟩:=HCA.out j (by omega)
   have hc2:=Ext.cell hbel hc
   clear hc
   obtain ⟨bit,hbit⟩:∃ bit,nthB xa j=bit:=⟨_,rfl⟩
   rw [hbit] at hc2
   have HBIT:=Lib.hid hbit
   clear hbit
   go_wp2_with (at_builtin;refine append_rd etB rfl _ _ rfl wr.heap.size rfl (World.ownsRow_lit wr #[.bool bit] 1 (Nat.le_refl _) (by unfold maxLen;omega) rfl) rfl (RdV.ext hr.out.rd (Ext.alloc _ _)) (bools_one _) (by omega) (by unfold maxLen;omega) (by simp) ?_)
   intro v2 w2 o2 b2 _
   have O2:Hid (OwnB 4 wr.heap.size w2 v2 (bit :: bitsOf R0)):=by
    show OwnB _ _ _ _ _
    unfold OwnB
    have e:(bit :: bitsOf R0:List Bool).length=1+(bitsOf R0).length:=by simp;omega
    rw [e]
    exact o2
   have X2:Ext wr w2:=Below.trans (Ext.alloc _ _) (Below.mono b2 (by simp))
   clear o2 b2
   go_wp2_with fail
   refine (CutOwn O2.out).mono ?_
   rintro e w3 ⟨v3,rfl,rfl,o3⟩
   rw [bval_cons,bval_bitsOf] at o3
   have O3:=Lib.hid o3
   clear o3
   go_wp2_with fail
   refine (rCmp_any (bit.toNat+2*R0) B O3.out.rd (HB.out.ext (Ext.trans hbel X2))).mono ?_
   rintro e w4 ⟨_,rfl,b4,rfl⟩
   have hbt:bit.toNat≤1:=by cases bit <;> decide
   have hnb:=false_drop htk.out j (by omega)
   have HNB:=Lib.hid hnb
   have HT:=Lib.hid (take_less htk.out)
   clear hnb
   by_cases hge:B≤bit.toNat+2*R0
   ·have hcc:0≤cmpN (bit.toNat+2*R0) B:=by
     rcases cmpN_cases (bit.toNat+2*R0) B with ⟨h,_⟩ | ⟨_,h⟩ | ⟨_,h⟩ <;> omega
    generalize cmpN (bit.toNat+2*R0) B=cc at*
    go_wp2_with fail
    refine (rSub_any (O3.out.rd.ext b4) (HB.out.ext (Ext.trans hbel (Ext.trans X2 b4))) (by rw [bval_bitsOf,bval_bitsOf];exact hge) (by have h1:=blen_shl (n:=2) (show (bitsOf B).length≤274877906944 from hlb0);have h2:=blen_mono (show bit.toNat+2*R0≤B*2 ^ 2 by omega);omega)).mono ?_
    rintro e w5 ⟨v5,rfl,b5,o5⟩
    have O5:=Lib.hid o5
    clear o5
    rw [bval_bitsOf,bval_bitsOf] at O5
    have X5:Ext wr w5:=Ext.trans X2 (Ext.trans b4 b5)
    have hq1:=OwnBcell (OwnB.ext hO.out X5) j (by omega)
    have hq2:=OwnBfree (OwnB.ext hO.out X5) j
    have HR':bit.toNat+2*R0 - B < B:=by omega
    have hz4:=b4.size
    have hz2:=X2.size
    have hlt5:w.heap.size < wr.heap.size:=(World.ownsRow.lt hO.out _ rfl).2
    go_wp2_with fail
    go_roundw
    case rel=>
     refine ⟨j,bit.toNat+2*R0 - B,o.set j true,by go_num,by omega,by simp;exact HOL.out,HR',?_,OwnBset (OwnB.ext hO.out X5) j true,?_,?_,Below.setCell (Ext.trans hbel X5) (Nat.le_refl _) _⟩
     ·exact OwnB.mono (ownsRow_setCell_below O5.out (by show w.heap.size < w4.heap.size;omega) _) (by omega)
     ·show _=_;rw [List.take_set,List.set_eq_of_length_le (by simp;omega)];exact HT.out
     ·show _=_;rw [bdrop_set _ _ _ (by omega)];exact bdiv_step (by omega) hinv.out HBIT.out (by simp;omega)
    case measure=>simp [intOf] <;> omega
   ·have hcc:cmpN (bit.toNat+2*R0) B = -1:=cmpN_lt (by omega)
    rw [hcc]
    have HR':bit.toNat+2*R0 < B:=by omega
    have X4:Ext wr w4:=Ext.trans X2 b4
    have hz2:=X2.size
    have O3':=Lib.hid (OwnB.mono (O3.out.ext b4) (show w.heap.size≤wr.heap.size by omega))
    clear O3 hcc
    go_wp2_with fail
    go_roundw
    case rel=>
     refine ⟨j,bit.toNat+2*R0,o,by go_num,by omega,HOL.out,HR',O3'.out,OwnB.ext hO.out X4,HT.out,?_,Ext.trans hbel X4⟩
     show _=_
     rw [bdrop_same _ _ (by omega) HNB.out]
     have h:=bdiv_step (d:=0) (by omega) hinv.out HBIT.out (R':=bit.toNat+2*R0) (by simp)
     rw [Nat.zero_add] at h
     exact h
    case measure=>simp [intOf] <;> omega
  ·obtain rfl:m=0:=by omega
   have h0:bval xa=B*bval o+R0:=by have h:=hinv.out;rwa [List.drop_zero,List.drop_zero] at h
   have hdm:=div_mod_of h0 hR0
   have E1:=Lib.hid hdm.1
   have E2:=Lib.hid hdm.2
   clear hdm h0
   go_wp2_with fail
   refine (CutOwn hO.out).mono ?_
   rintro e w3 ⟨v3,rfl,rfl,o3⟩
   rw [E1.out] at o3
   have O3:=Lib.hid o3
   clear o3
   go_wp2_with fail
   exact hR.out _ _ (Gives.mk hbel ⟨_,_,rfl,O3.out,by rw [← E2.out];exact hr.out⟩)
open Go.RowKit Go.Att

theorem bitsOf_pos {y:Nat}:0 < (bitsOf y).length↔y≠0:=by
 rw [bitsOf_blen]
 constructor
 ·intro h h0;rw [h0,blen_zero] at h;omega
 ·exact blen_pos

set_option maxHeartbeats 1000000 in
theorem r3Gcd_any {w:World} {va vb:Value} {A B:Nat} (ha:RdB w va (bitsOf A)) (hb:RdB w vb (bitsOf B)) (hna:(bitsOf A).length≤274877906944) (hnb:(bitsOf B).length≤274877906944):
  Calls Tryz.prog 79 #[va,vb] w (Gives w fun v' w'=>RdB w' v' (bitsOf (Nat.gcd A B))):=by
 refine via fun R hR=>?_
 have HA:=Lib.hid ha
 have HB:=Lib.hid hb
 clear ha hb
 go_enter Tryz.func79,Tryz.ntmps79
 go_wp2_with fail
 go_loopg [0,1] B (fun gk s0 s1 wr=>∃ (x y:Nat),y=gk∧(bitsOf x).length≤274877906944∧(bitsOf y).length≤274877906944∧Hid (RdB wr s0 (bitsOf x))∧Hid (RdB wr s1 (bitsOf y))∧Hid (Nat.gcd x y=Nat.gcd A B)∧Ext w wr)
 case atStart=>exact ⟨_,_,rfl,by omega,by omega,HA.out,HB.out,rfl,Ext.refl _⟩
 case round=>
  obtain ⟨x,y,rfl,hlx,hly,hO,hP,hg,hbel⟩:=hrel
  obtain ⟨b,cb,rfl,hcb1,hmb,_,_⟩:=hP.out.shape
  unfold maxLen at hmb
  by_cases h0:y=0
  ·have hl0:(bitsOf y).length≤0:=by have:=(bitsOf_pos (y:=y));omega
   have E:Hid (x=Nat.gcd A B):=by show _=_;rw [← hg.out,h0,Nat.gcd_zero_right]
   clear h0
   go_wp2_with fail
   exact hR.out _ _ (Gives.mk hbel (by rw [← E.out];exact hO.out))
  ·have hl0:0 < (bitsOf y).length:=bitsOf_pos.2 h0
   have H0:=Lib.hid h0
   have E:Hid (Nat.gcd y (x % y)=Nat.gcd A B):=by
    show _=_
    rw [← hg.out,Nat.gcd_comm y,← Nat.gcd_rec,Nat.gcd_comm]
   have hmod:x % y < y:=Nat.mod_lt _ (by omega)
   have hml:=blen_mono (Nat.le_of_lt hmod)
   clear h0
   go_wp2_with fail
   refine (r3DivMod_any hO.out hP.out H0.out (by omega) (by omega)).mono ?_
   rintro e w3 ⟨_,rfl,b3,q3,r3,rfl,_,o3⟩
   rw [bval_bitsOf] at o3
   have O3:=Lib.hid o3
   clear o3
   go_wp2_with fail
   go_roundg (x % y)
   case measure=>exact hmod
   case rel=>exact ⟨y,x % y,rfl,by omega,by omega,hP.out.ext b3,O3.out.rd,E.out,Ext.trans hbel b3⟩
end Go.Proofs.YtdooldpgnjmpfaaGreatDoor
