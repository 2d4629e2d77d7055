/- A group of texts: PHoldsG, PExtend -/
import Derived.Test.YtmlhccajicmpfaaGreatSq
import Derived.Test.YtmlhccajicmpfaaGreatPSplit
import Derived.Test.YtmlhccajicmpfaaGreatPartCH
import Derived.Test.YtmlhccajicmpfaaGreatPartDE
set_option maxHeartbeats 40000000
set_option maxRecDepth 100000
set_option linter.unusedSimpArgs false
namespace Go.Proofs.YtmlhccajicmpfaaGreat
open Go.RowKit Go.Att

theorem holdsG_any {w:World} {va vb:Value} {p:AT} {P:List Rat} (ha:OwnA w va p) (hb:RdRow 3 (OwnQp 156) w vb P) (hs:SzA p) (hP:∀ q∈P,Sz 1500 q):
  Calls Tryz.prog 45 #[va,vb] w (Gives w fun v' _=>∃ (b:Bool) (z:Int),v'=.tuple #[.bool b,.int .i64 z]):=by
 refine via fun R hR=>?_
 have HA:=qH ha
 obtain ⟨a,k,s,b,m,d,b',m',d',rfl,HX⟩:=ha.op
 have HCK:Hid (∀ w',Ext w w'→Calls Tryz.prog 72 #[.agg #[.slice a p.1.1.length k,.bool s,.slice b m d,.slice b' m' d',.int .i64 p.2]] w' (Gives w' fun v' _=>v'=.int .i64 (chk p.2))):=fun w' x=>check9_any (HA.out.ext x)
 have HEV:Hid (∀ w',Ext w w'→Calls Tryz.prog 74 #[.agg #[.slice a p.1.1.length k,.bool s,.slice b m d,.slice b' m' d'],vb] w' (Gives w' fun v' w'=>OwnQ 156 0 w' v' (p.1.2+tv P p.1.1))):=fun w' x=>
  leval_any 2000 1500 (HX.out.rd.ext x) (hb.ext OwnQ.ext x) hs.2.1 hs.2.2 hP (by have:=hs.1;omega) dC
 obtain ⟨ab,kb,rfl,-,-⟩:=hb.shape
 clear ha hb hs hP HA HX
 generalize p.1.2+tv P p.1.1=val at*
 generalize p.1.1.length=n at*
 generalize p.2=op at*
 obtain ⟨w1,hw1,b1,c1,-,-⟩:=bx1 w [.slice a n k,.bool s,.slice b m d,.slice b' m' d',.int .i64 op] 144
 have HW:=qH hw1
 have C1:=qH c1
 clear hw1 c1
 go_enter Tryz.func45,Tryz.ntmps45
 go_upto_region 1 with (fail)
 rw [← HW.out]
 clear HW
 obtain ⟨k0,k1,k2,k3,k4⟩:=C1.out.c5
 go_wp2_with fail
 refine (HCK.out _ b1).mono ?_
 rintro e w2 ⟨_,rfl,b2,rfl⟩
 clear k0 k1 k2 k3 k4
 have b12:=eT b1 b2
 dsimp only
 by_cases hop:1≤op∧op≤3
 ·have hc:chk op=0:=if_pos hop
  rw [hc]
  clear hc hop
  have D1:=qH (C1.out.ext b2)
  go_upto_region 4 with (fail)
  have b3:=drew_ext w2
  have XE:=b3
  refine wp_region_noPanic ?_
  refine wp_region_held_drew (S:=fun w'=>w'.cell? ⟨w.heap.size,0,none⟩=some (.slice a n k)∧w'.cell? ⟨w.heap.size,1,none⟩=some (.bool s)∧w'.cell? ⟨w.heap.size,2,none⟩=some (.slice b m d)∧w'.cell? ⟨w.heap.size,3,none⟩=some (.slice b' m' d')∧w'.cell? ⟨w.heap.size,4,none⟩=some (.int .i64 op)) kR ((D1.out.ext XE).c5) (fun hHeld=>?_)
  refine tkH 0 hHeld ?_
  simp only [jP,jJ]
  refine tkH 1 hHeld ?_
  simp only [jP,jJ]
  refine tkH 2 hHeld ?_
  simp only [jP,jJ]
  refine tkH 3 hHeld ?_
  simp only [jP,jJ]
  refine tkH 4 hHeld ?_
  simp only [jP,jJ]
  refine rdH 5 kR rfl (fun K hK=>?_)
  go_simp
  go_at_call 74;refine (HEV.out _ (eT b12 XE)).mono ?_;rintro e w4 ⟨v4,rfl,b4,o4⟩;have O4:=qH o4;clear o4;(first | have XE:=eT XE b4 | have XE:=eT (eT XE (Ext.alloc _ _)) b4)
  go_wp2_with fail
  refine hK.out _ _ ((D1.out.ext XE).c5) (fun hHeld=>?_)
  clear hK K
  try simp only [jP,jJ]
  refine rdH 6 kR rfl (fun K hK=>?_)
  go_simp
  go_at_call 73;refine (says_any O4.out).mono ?_;rintro e w5 ⟨_,rfl,b5,rfl⟩;(first | have XE:=eT XE b5 | have XE:=eT (eT XE (Ext.alloc _ _)) b5)
  go_wp2_with fail
  refine hK.out _ _ ((D1.out.ext XE).c5) (fun hHeld=>?_)
  clear hK K
  try simp only [jP,jJ]
  refine tkH 7 hHeld ?_
  simp only [jP,jJ]
  refine tkH 8 hHeld ?_
  simp only [jP,jJ]
  refine dnH kR ?_
  go_wp2_with fail
  exact hR.out _ _ (Gives.mk (eT b12 XE) ⟨_,_,rfl⟩)
 have hc:chk op=4:=if_neg hop
 rw [hc]
 clear hc hop
 go_wp2_with fail
 exact hR.out _ _ (Gives.mk b12 ⟨_,_,rfl⟩)
theorem neval_any {w:World} {v0 v1:Value} {n:Nt Rat} {x:List (Rat × Rat)} {p:List Rat} (hv:RdNet QnN w v0 n) (hp:RdRow 3 QnN w v1 p) (hl:lit n) (hs:∀ l∈n.2,SzL l) (hin:InR x p) (hw:0 < wds n.2 n.1) (hxz:(x.length:Int)=n.1) (hps:SzV 8 p):
  Calls Tryz.prog 20 #[v0,v1] w (Gives w fun v' w'=>∃ o,v'=.tuple #[o,.int .i64 0]∧RdRow 3 QnN w' o (vat n.2 p n.2.length)):=by
 refine via fun R hR=>?_
 obtain ⟨a,c,rfl,-,-,-⟩:=hv.op
 obtain ⟨w1,hw1,b1,c1,-,-⟩:=bx1 w [.int .i64 n.1,.slice a n.2.length c] 47
 have HW:=qH hw1
 have HTR:=qH (trace_any (hv.ext qnn_ext b1) (hp.ext OwnQ.ext b1) hl hs hin hw hxz hps)
 obtain ⟨a1,k1,rfl,-,-⟩:=hp.shape
 have HK3:Hid (n.2.length≤3):=hl.2.1
 obtain ⟨j0,j1⟩:=c1.c2
 clear hw1 c1 hv hp hl hs hin hw hxz hps
 go_enter Tryz.func20,Tryz.ntmps20
 go_upto_region 1 with (fail)
 rw [← HW.out]
 clear HW
 go_wp2_with fail
 refine HTR.out.mono ?_
 rintro e w2 ⟨_,rfl,b2,o,rfl,ho⟩
 obtain ⟨ao,ko,rfl,-,-⟩:=ho.rd.shape
 have HO:=qH ho
 rw [trcL_len] at HO ⊢
 have hlt:n.2.length < (trcL n.2 p (n.2.length+1)).length:=by rw [trcL_len];exact Nat.lt_succ_self _
 obtain ⟨bR,oR,ar,kr,hae,hcell,hrr⟩:=HO.out.rd.rowOf n.2.length hlt (trcL_at hlt)
 subst hae
 have j9:=hcell.out.c1
 clear hlt
 have HRR:=qH hrr
 obtain ⟨nn,hnn⟩:∃ nn,n.2.length+1=nn:=⟨_,rfl⟩
 have h1:IntKind.i64.wrap ((nn:Int) - 1)=(n.2.length:Int):=by have:=HK3.out;rw [IntKind.wrap_i64];omega
 have h2:(0:Int)≤(n.2.length:Int)∧(n.2.length:Int) < (nn:Int):=⟨by omega,by omega⟩
 rw [hnn]
 clear ho hrr hnn HO HTR j0 j1
 go_wp2_with fail
 exact hR.out _ _ (Gives.mk (eT b1 b2) ⟨_,rfl,HRR.out.rd⟩)
end Go.Proofs.YtmlhccajicmpfaaGreat

namespace Go.Att
open Go.RowKit
theorem flatten_le {α:Type} {m:Nat}:∀ {L:List (List α)},(∀ l∈L,l.length≤m)→L.flatten.length≤m*L.length
 | [],_=>by simp
 | l :: L,h=>by
  have h1:=h l List.mem_cons_self
  have h2:=flatten_le (L:=L) fun l hl=>h l (List.mem_cons_of_mem _ hl)
  rw [List.flatten_cons,List.length_append,List.length_cons,Nat.mul_succ]
  omega
theorem bools_pw {w:World}:∀ l:List Bool,Pw 1 (fun c a=>BoolT w (.agg c.toArray) a) (l.map fun x=>[Value.bool x]) l
 | []=>trivial
 | _ :: l=>⟨⟨rfl,rfl⟩,bools_pw l⟩
theorem BlB.rd {w:World} {g n:Nat} {t:TypeId} (h:BlB w g n t) (hn:n≤maxLen):∃ l:List Bool,l.length=n∧RdRow 1 BoolT w (.slice (some ⟨g,0,none⟩) n n) l:=by
 obtain ⟨cs,h1,h2,h3⟩:=h
 obtain ⟨f,hf⟩:∃ f:Nat→Bool,∀ i,i < n→cs[i]?=some (.bool (f i)):=by
  have h4:∀ i,∃ x:Bool,i < n→cs[i]?=some (.bool x):=fun i=>by
   by_cases hi:i < n
   ·obtain ⟨x,hx⟩:=h3 i hi
    exact ⟨x,fun _=>hx⟩
   exact ⟨false,fun h=>absurd h hi⟩
  exact ⟨fun i=>(h4 i).choose,fun i=>(h4 i).choose_spec⟩
 have hl:((List.range n).map f).length=n:=by simp
 have hfl:(((List.range n).map f).map fun x=>[Value.bool x]).flatten=((List.range n).map f).map Value.bool:=by
  generalize (List.range n).map f=l
  induction l with
  | nil=>rfl
  | cons a l ih=>simp [ih]
 refine ⟨(List.range n).map f,hl,_,?_,bools_pw _⟩
 rw [hfl,hl]
 refine ⟨by simp,_,_,rfl,Nat.le_refl _,hn,(fun h=>by cases h),fun i hi=>⟨g,0,rfl,?_⟩⟩
 have hi':i < n:=by simpa using hi
 rw [Nat.zero_add,cell_of_row w g i cs t (0,0) h2,hf i hi']
 simp [hi']
end Go.Att
namespace Go.Proofs.YtmlhccajicmpfaaGreat
open Go.RowKit Go.Att

theorem vat_len {ls:List (Lay Rat)} {w:Int} {x:List (Rat × Rat)} {p:List Rat} (h:0 < wds ls w) (hx:(x.length:Int)=w) (hi:InR x p) (i:Nat) (hl:i≤ls.length):((vat ls p i).length:Int)=wds (ls.take i) w:=by
 rw [← (hi.run i hl).len]
 exact xat_len h hx i hl
theorem extend_ok {w:World} {v v1:Value} {q:Nt Rat × Pr (Rat × Rat) AT} {x:List (Rat × Rat)} {p:List Rat} (hv:QyP w v q) (hp:RdRow 3 QnN w v1 p) (hq:QyOk q) (hs:∀ l∈q.1.2,SzL l) (hin:InR x p) (hxz:(x.length:Int)=q.1.1) (hps:SzV 8 p) (ha:∀ a∈q.2.2.1,Smx a.1.1 a.1.2) (hna:q.2.2.1.length≤10) (hf:frmF q.2.2.2 q.2.2.1.length=true) (hz:szF q.2.2.2≤60):
  Calls Tryz.prog 16 #[v,v1] w (Gives w fun v' w'=>∃ o b,v'=.tuple #[o,b,.int .i64 0]∧OwnRow 3 QnN 38 0 w' o (trcL q.1.2 p (q.1.2.length+1)).flatten):=by
 refine via fun R hR=>?_
 obtain ⟨a0,c0,a,c,a',c',xf,kf,rfl,hN,hP⟩:=hv.op2
 obtain ⟨w1,hw1,b1,c1,-,-⟩:=bx1 w [.int .i64 q.1.1,.slice a0 q.1.2.length c0,.slice a q.2.1.length c,.slice a' q.2.2.1.length c',.int .i64 q.2.2.2.k,.int .i64 q.2.2.2.a,.slice xf q.2.2.2.sub.length kf] 53
 have HW:=qH hw1
 have C1:=qH c1
 have HBA:=qH (bases_ok (qyp_ext hv b1) hq)
 have HTR:Hid (∀ w',Ext w w'→Calls Tryz.prog 15 #[.agg #[.int .i64 q.1.1,.slice a0 q.1.2.length c0],v1] w' (Gives w' fun v' w'=>∃ o,v'=.tuple #[o,.int .i64 0]∧OwnRow 1 QnW 55 0 w' o (trcL q.1.2 p (q.1.2.length+1)))):=fun w' xx=>
  trace_any (hN.ext qnn_ext xx) (hp.ext OwnQ.ext xx) hq.1 hs hin hq.2.1 hxz hps
 have HSP:Hid (∀ w' (i o:Int),Ext w w'→Calls Tryz.prog 44 #[.agg #[.slice a q.2.1.length c,.slice a' q.2.2.1.length c',.int .i64 q.2.2.2.k,.int .i64 q.2.2.2.a,.slice xf q.2.2.2.sub.length kf],.int .i64 i,.int .i64 o] w' (Gives w' fun v' w''=>∃ (fv:Value) (f:Fm) (a:Option Addr) (c:Nat) (ats:List AT),v'=.tuple #[fv,.slice a ats.length c]∧(∃ k,RdFs (fun g=>w'.heap.size≤g) k w'' fv f)∧chkF f ats.length=0∧ats.length≤20∧(∀ a∈ats,SzA a)∧OwnRow 5 OwnA 144 w'.heap.size w'' (.slice a ats.length c) ats)):=fun w' i o xx=>
  split_any (hP.ext snd_ext OwnAt.ext xx) ha hna hf hz
 have HK3:Hid (q.1.2.length≤3):=hq.1.2.1
 have HPL:Hid ((p.length:Int)=q.1.1):=by show _=_;rw [← hin.len];exact hxz
 have HP4:Hid (p.length≤4):=by have h1:=HPL.out;have h2:=hq.1.1;show _≤_;omega
 have hwp:∀ i,i≤q.1.2.length→(vat q.1.2 p i).length≤4∧0 < (vat q.1.2 p i).length:=fun i hi=>by
  have h1:=vat_len hq.2.1 hxz hin i hi
  have h2:=wds_le hq.2.1 hq.1.1 hq.1.2.2 i hi
  have h3:=wds_pos hq.2.1 i hi
  omega
 have hmem:∀ l∈trcL q.1.2 p (q.1.2.length+1),∃ i,i≤q.1.2.length∧l=vat q.1.2 p i:=fun l hl=>by
  obtain ⟨i,hi,rfl⟩:=List.mem_map.1 hl
  exact ⟨i,by have:=List.mem_range.1 hi;omega,rfl⟩
 have HTZ:Hid (∀ r∈(trcL q.1.2 p (q.1.2.length+1)).flatten,Sz 1500 r):=fun r hr=>by
  obtain ⟨l,hl,hrl⟩:=List.mem_flatten.1 hr
  obtain ⟨i,hi,rfl⟩:=hmem l hl
  exact (((vat_sz hq.2.1 hxz hq.1.1 hq.1.2.2 hs hin hps i hi).le (cN_le3 (by have:=hq.1.2.1;omega))) r hrl).le dC
 have HTN:Hid ((trcL q.1.2 p (q.1.2.length+1)).flatten.length≤100):=by
  have h1:=flatten_le (m:=4) (L:=trcL q.1.2 p (q.1.2.length+1)) fun l hl=>by
   obtain ⟨i,hi,rfl⟩:=hmem l hl
   exact (hwp i hi).1
  rw [trcL_len] at h1
  have:=hq.1.2.1
  show _≤_
  omega
 have HT0:Hid (0 < (trcL q.1.2 p (q.1.2.length+1)).flatten.length):=by
  rw [trcL_succ,List.flatten_append,List.length_append]
  have h1:=(hwp q.1.2.length (Nat.le_refl _)).2
  show _ < _
  simp
  omega
 have HTL:Hid ((trcL q.1.2 p (q.1.2.length+1)).length≤4):=by rw [trcL_len];have:=hq.1.2.1;show _≤_;omega
 obtain ⟨ap,cp,rfl,-,-⟩:=hp.shape
 obtain ⟨j0,j1,j2,j3,j4,j5,j6⟩:=c1.c7
 clear hw1 c1 hv hN hP hp hq hs hin hxz hps ha hna hf hz hwp hmem
 obtain ⟨⟨z,ls⟩,bx,ats,fm⟩:=q
 dsimp only at*
 have hne:((p.length:Int) != z)=false:=by rw [HPL.out];exact bne_self_eq_false _
 generalize trcL ls p (ls.length+1)=L at*
 generalize bx.length=nb at*
 generalize ats.length=na at*
 generalize fm.k=fk at*
 generalize fm.a=fa at*
 generalize fm.sub.length=fn at*
 generalize p.length=np at*
 go_enter Tryz.func16,Tryz.ntmps16
 go_upto_region 1 with (fail)
 rw [← HW.out]
 clear HW
 go_wp2_with fail
 refine HBA.out.mono ?_
 rintro e w2 ⟨_,rfl,b2,ob,rfl,ho⟩
 obtain ⟨ab,kb,rfl,-,-⟩:=ho.rd.shape
 obtain ⟨bB,oB,rfl,e0⟩:=IntT.row ho.rd ls.length (by rw [bsL_len];omega)
 rw [bsL_get] at e0
 rw [bsL_len]
 have CB:Hid (Bo w2 bB (oB+ls.length) [.int .i64 (bsN ls z ls.length)]):=Bo.one e0
 generalize bsN ls z ls.length=vo at*
 obtain ⟨nl,hnl⟩:∃ nl,ls.length+1+1=nl:=⟨_,rfl⟩
 rw [hnl]
 have hk1:IntKind.i64.wrap ((nl:Int) - 2)=(ls.length:Int):=by have:=HK3.out;rw [IntKind.wrap_i64];omega
 have hk2:(0:Int)≤(ls.length:Int)∧(ls.length:Int) < (nl:Int):=by omega
 clear ho e0 HBA j0 j1 j2 j3 j4 j5 j6 hnl
 obtain ⟨j0,j1,j2,j3,j4,j5,j6⟩:=(C1.out.ext b2).c7
 go_wp2_with fail
 refine (HTR.out _ (eT b1 b2)).mono ?_
 rintro e w3 ⟨_,rfl,b3,ot,rfl,ht⟩
 obtain ⟨at3,kt,rfl,-,-⟩:=ht.rd.shape
 have HCC:=qH (concat_any ht.rd (by have:=HTL.out;omega) HT0.out (by have:=HTN.out;omega))
 clear ht HTR HTL HT0 j0 j1 j2 j3 j4 j5 j6 hne
 generalize L.length=nL at*
 generalize L.flatten=P at*
 go_wp2_with fail
 refine HCC.out.mono ?_
 rintro e w4 ⟨vP,rfl,b4,hPP⟩
 obtain ⟨aP,kP,rfl,-,-⟩:=hPP.rd.shape
 have HPP:=qH (hPP.mono (Nat.zero_le _))
 have X4:=qH (eT b2 (eT b3 b4))
 have C4:=qH (C1.out.ext X4.out)
 have CB4:=qH (CB.out.ext (eT b3 b4))
 clear hPP HCC CB b2 b3 b4
 go_upto_region 8 with (fail)
 go_cut [12,13] (fun s12 s13 wx=>∃ (BA:Nat) (k0 i0:Int) (xs:Option Addr) (ns cs:Nat) (aT:Option Addr) (cT:Nat) (f:Fm) (l:List AT),s12=.pointer (some ⟨BA,0,none⟩)∧s13=.slice aT l.length cT∧Hid (Ext w4 wx)∧Hid (Bx wx BA [.int .i64 k0,.int .i64 i0,.slice xs ns cs])∧Hid (∃ k,RdFs (fun g=>g≠BA) k wx (.agg #[.int .i64 k0,.int .i64 i0,.slice xs ns cs]) f)∧Hid (chkF f l.length=0∧l.length≤20∧∀ a∈l,SzA a)∧Hid (OwnRow 5 OwnA 144 0 wx (.slice aT l.length cT) l))
 case first=>
  have b5:=drew_ext w4
  have XE:=b5
  refine wp_region_noPanic ?_
  refine wp_region_held_drew (S:=fun w'=>(w'.cell? ⟨w.heap.size,0,none⟩=some (.int .i64 z)∧w'.cell? ⟨w.heap.size,1,none⟩=some (.slice a0 ls.length c0)∧w'.cell? ⟨w.heap.size,2,none⟩=some (.slice a nb c)∧w'.cell? ⟨w.heap.size,3,none⟩=some (.slice a' na c')∧w'.cell? ⟨w.heap.size,4,none⟩=some (.int .i64 fk)∧w'.cell? ⟨w.heap.size,5,none⟩=some (.int .i64 fa)∧w'.cell? ⟨w.heap.size,6,none⟩=some (.slice xf fn kf))∧(w'.cell? ⟨bB,oB+ls.length,none⟩=some (.int .i64 vo))) kR (⟨(C4.out.ext XE).c7,(CB4.out.ext XE).c1⟩) (fun hHeld=>?_)
  refine gen_world (P:=wpAnyH _ _ _ _ _ _ _ _) _ (fun wn hwn=>?_)
  have bn:Ext w4 wn:=(hwn.symm ▸ drew_ext w4)
  rw [← hwn] at hHeld
  clear hwn
  have WC:=qH (C4.out.ext bn)
  have WB:=qH (CB4.out.ext bn)
  have WX:=qH bn
  refine tkH 0 hHeld ?_
  simp only [jP,jJ]
  refine tkH 1 hHeld ?_
  simp only [jP,jJ]
  refine tkH 2 hHeld ?_
  simp only [jP,jJ]
  refine tkH 3 hHeld ?_
  simp only [jP,jJ]
  refine tkH 4 hHeld ?_
  simp only [jP,jJ]
  refine tkH 5 hHeld ?_
  simp only [jP,jJ]
  refine tkH 6 hHeld ?_
  simp only [jP,jJ]
  refine tkH 7 hHeld ?_
  simp only [jP,jJ]
  refine tkH 8 hHeld ?_
  simp only [jP,jJ]
  refine tkH 9 hHeld ?_
  simp only [jP,jJ]
  refine tkH 10 hHeld ?_
  simp only [jP,jJ]
  refine wpAnyH_ready (rs:=[11,15]) kR (by simp) ?_
  refine AllReadyH.cons (o:=_) rfl (fun K hK=>?_) (AllReadyH.cons (o:=_) rfl (fun K hK=>?_) AllReadyH.nil)
  ·skip
   go_simp
   go_at_call 44
   refine (HSP.out _ _ _ (eT b1 (eT X4.out WX.out))).mono ?_
   have SZC:Hid (∀ g,wn.heap.size≤g→wn.heap.size≤g):=(fun g hg=>hg)
   try have NCX:Hid (BA < wn.heap.size):=RA.out.lt
   rintro e wn2 ⟨_,rfl,bn,fv,fT,aT,cT,lT,rfl,hfT,hc1,hc2,hc3,hrT⟩
   obtain ⟨kT,hfT⟩:=hfT
   obtain ⟨xT,qT,rfl⟩:=hfT.shape
   have TR:=qH (hrT.mono (Nat.zero_le _))
   have TG2:Hid (∀ g,(Value.slice aT (List.length lT) cT).ownBlock=some g→wn.heap.size≤g∧g < wn2.heap.size):=(fun g hg=>OwnRow.lt hrT g hg)
   have HCT:Hid (chkF fT (List.length lT)=0∧List.length lT≤20∧∀ a∈lT,SzA a):=⟨hc1,hc2,hc3⟩
   have TF2:=qH hfT
   try have TF:Hid (∃ k,RdFs (fun g=>g≠BA) k wn2 (.agg #[.int .i64 fT.k,.int .i64 fT.a,.slice xT fT.sub.length qT]) fT):=⟨kT,RdFs.to (fun g hg _ he=>by have:=NCX.out;omega) TF2.out⟩
   try have TG:Hid (∀ g,(Value.slice aT (List.length lT) cT).ownBlock=some g→g≠BA):=(fun g hg he=>by have:=NCX.out;have:=TG2.out g hg;omega)
   clear hfT hc1 hc2 hc3 hrT
   have WC:=qH (WC.out.ext bn)
   have WB:=qH (WB.out.ext bn)
   have WX:=qH (eT WX.out bn)
   try have RA:=qH (RA.out.ext bn)
   obtain ⟨wn,hwn⟩:∃ W:World,W=wn2:=⟨_,rfl⟩
   subst hwn
   go_wp2_with fail
   refine hK.out _ _ ⟨WC.out.c7,WB.out.c1⟩ (fun hHeld=>?_)
   clear hK K
   try simp only [jP,jJ]
   refine tkH 12 hHeld ?_
   simp only [jP,jJ]
   refine tkH 13 hHeld ?_
   simp only [jP,jJ]
   refine tkH 14 hHeld ?_
   simp only [jP,jJ]
   refine rdH 15 kR rfl (fun K hK=>?_)
   go_simp
   refine hK.out _ _ ⟨(WC.out.ext (Ext.alloc _ _)).c7,(WB.out.ext (Ext.alloc _ _)).c1⟩ (fun hHeld=>?_)
   refine gen_world (P:=wpAnyH _ _ _ _ _ _ _ _) _ (fun wm hwm=>?_)
   rw [← hwm] at hHeld
   have RA:Hid (Rt wm wn.heap.size 3 29):=(by rw [hwm];exact qH (Rt.new wn [_,_,_] _))
   have bn:Ext wn wm:=(by rw [hwm];exact Ext.alloc _ _)
   try have TF:Hid (∃ k,RdFs (fun g=>g≠wn.heap.size) k wm (.agg #[.int .i64 fT.k,.int .i64 fT.a,.slice xT fT.sub.length qT]) fT):=⟨kT,(RdFs.to (fun g _ hg he=>by omega) TF2.out).ext bn⟩
   try have TG:Hid (∀ g,(Value.slice aT (List.length lT) cT).ownBlock=some g→g≠wn.heap.size):=(fun g hg he=>by have:=TG2.out g hg;omega)
   have NCA:Hid (w4.heap.size≤wn.heap.size):=Below.size WX.out
   obtain ⟨BA,hBA⟩:∃ BA,wn.heap.size=BA:=⟨_,rfl⟩
   rw [hBA] at RA NCA ⊢
   try rw [hBA] at TF
   try rw [hBA] at TG
   clear hBA hwm
   obtain ⟨wn,hwn⟩:∃ W:World,W=wm:=⟨_,rfl⟩
   subst hwn
   have WC:=qH (WC.out.ext bn)
   have WB:=qH (WB.out.ext bn)
   have WX:=qH (eT WX.out bn)
   try have TR:=qH (TR.out.ext OwnAt.ext bn)
   clear hK K
   try simp only [jP,jJ]
   refine rdH 16 kR rfl (fun K hK=>?_)
   obtain ⟨_,_,_,r0,r1,r2,i0,i1,i2⟩:=RA.out.rm.c3
   go_simp
   refine hK.out _ _ ⟨(WC.out.keepC (putL_block BA (by have:=NCA.out;have:=X4.out.size;have:=C1.out.lt;omega) [_,_,_] _ 0)).c7,(WB.out.putL (by have:=NCA.out;have:=CB4.out.lt;omega) 0 [_,_,_]).c1⟩ (fun hHeld=>?_)
   clear hK K
   try simp only [jP,jJ]
   refine tkH 17 hHeld ?_
   simp only [jP,jJ]
   refine dnH kR ?_
   go_wp2_with fail
   go_meet
   exact ⟨BA,_,_,_,_,_,aT,cT,fT,lT,rfl,rfl,putL_below NCA.out [_,_,_] 0 WX.out,(RA.out.putL_at [_,_,_] rfl).1,TF.out.elim (fun k h=>⟨k,h.keep (fun g hg _=>putL_block BA hg [_,_,_] _ 0)⟩),HCT.out,TR.out.keepO (fun g hg=>putL_block BA (TG.out g hg) [_,_,_] _ 0) (fun v x h=>OwnAt.putT h RA.out dC dC 0 [_,_,_])⟩
  skip
  go_simp
  refine hK.out _ _ ⟨(WC.out.ext (Ext.alloc _ _)).c7,(WB.out.ext (Ext.alloc _ _)).c1⟩ (fun hHeld=>?_)
  refine gen_world (P:=wpAnyH _ _ _ _ _ _ _ _) _ (fun wm hwm=>?_)
  rw [← hwm] at hHeld
  have RA:Hid (Rt wm wn.heap.size 3 29):=(by rw [hwm];exact qH (Rt.new wn [_,_,_] _))
  have bn:Ext wn wm:=(by rw [hwm];exact Ext.alloc _ _)
  try have TF:Hid (∃ k,RdFs (fun g=>g≠wn.heap.size) k wm (.agg #[.int .i64 fT.k,.int .i64 fT.a,.slice xT fT.sub.length qT]) fT):=⟨kT,(RdFs.to (fun g _ hg he=>by omega) TF2.out).ext bn⟩
  try have TG:Hid (∀ g,(Value.slice aT (List.length lT) cT).ownBlock=some g→g≠wn.heap.size):=(fun g hg he=>by have:=TG2.out g hg;omega)
  have NCA:Hid (w4.heap.size≤wn.heap.size):=Below.size WX.out
  obtain ⟨BA,hBA⟩:∃ BA,wn.heap.size=BA:=⟨_,rfl⟩
  rw [hBA] at RA NCA ⊢
  try rw [hBA] at TF
  try rw [hBA] at TG
  clear hBA hwm
  obtain ⟨wn,hwn⟩:∃ W:World,W=wm:=⟨_,rfl⟩
  subst hwn
  have WC:=qH (WC.out.ext bn)
  have WB:=qH (WB.out.ext bn)
  have WX:=qH (eT WX.out bn)
  try have TR:=qH (TR.out.ext OwnAt.ext bn)
  clear hK K
  try simp only [jP,jJ]
  refine rdH 11 kR rfl (fun K hK=>?_)
  go_simp
  go_at_call 44
  refine (HSP.out _ _ _ (eT b1 (eT X4.out WX.out))).mono ?_
  have SZC:Hid (∀ g,wn.heap.size≤g→wn.heap.size≤g):=(fun g hg=>hg)
  try have NCX:Hid (BA < wn.heap.size):=RA.out.lt
  rintro e wn2 ⟨_,rfl,bn,fv,fT,aT,cT,lT,rfl,hfT,hc1,hc2,hc3,hrT⟩
  obtain ⟨kT,hfT⟩:=hfT
  obtain ⟨xT,qT,rfl⟩:=hfT.shape
  have TR:=qH (hrT.mono (Nat.zero_le _))
  have TG2:Hid (∀ g,(Value.slice aT (List.length lT) cT).ownBlock=some g→wn.heap.size≤g∧g < wn2.heap.size):=(fun g hg=>OwnRow.lt hrT g hg)
  have HCT:Hid (chkF fT (List.length lT)=0∧List.length lT≤20∧∀ a∈lT,SzA a):=⟨hc1,hc2,hc3⟩
  have TF2:=qH hfT
  try have TF:Hid (∃ k,RdFs (fun g=>g≠BA) k wn2 (.agg #[.int .i64 fT.k,.int .i64 fT.a,.slice xT fT.sub.length qT]) fT):=⟨kT,RdFs.to (fun g hg _ he=>by have:=NCX.out;omega) TF2.out⟩
  try have TG:Hid (∀ g,(Value.slice aT (List.length lT) cT).ownBlock=some g→g≠BA):=(fun g hg he=>by have:=NCX.out;have:=TG2.out g hg;omega)
  clear hfT hc1 hc2 hc3 hrT
  have WC:=qH (WC.out.ext bn)
  have WB:=qH (WB.out.ext bn)
  have WX:=qH (eT WX.out bn)
  try have RA:=qH (RA.out.ext bn)
  obtain ⟨wn,hwn⟩:∃ W:World,W=wn2:=⟨_,rfl⟩
  subst hwn
  go_wp2_with fail
  refine hK.out _ _ ⟨WC.out.c7,WB.out.c1⟩ (fun hHeld=>?_)
  clear hK K
  try simp only [jP,jJ]
  refine tkH 12 hHeld ?_
  simp only [jP,jJ]
  refine tkH 13 hHeld ?_
  simp only [jP,jJ]
  refine tkH 14 hHeld ?_
  simp only [jP,jJ]
  refine rdH 16 kR rfl (fun K hK=>?_)
  obtain ⟨_,_,_,r0,r1,r2,i0,i1,i2⟩:=RA.out.rm.c3
  go_simp
  refine hK.out _ _ ⟨(WC.out.keepC (putL_block BA (by have:=NCA.out;have:=X4.out.size;have:=C1.out.lt;omega) [_,_,_] _ 0)).c7,(WB.out.putL (by have:=NCA.out;have:=CB4.out.lt;omega) 0 [_,_,_]).c1⟩ (fun hHeld=>?_)
  clear hK K
  try simp only [jP,jJ]
  refine tkH 17 hHeld ?_
  simp only [jP,jJ]
  refine dnH kR ?_
  go_wp2_with fail
  go_meet
  exact ⟨BA,_,_,_,_,_,aT,cT,fT,lT,rfl,rfl,putL_below NCA.out [_,_,_] 0 WX.out,(RA.out.putL_at [_,_,_] rfl).1,TF.out.elim (fun k h=>⟨k,h.keep (fun g hg _=>putL_block BA hg [_,_,_] _ 0)⟩),HCT.out,TR.out.keepO (fun g hg=>putL_block BA (TG.out g hg) [_,_,_] _ 0) (fun v x h=>OwnAt.putT h RA.out dC dC 0 [_,_,_])⟩
 case rest=>
  obtain ⟨BA,k0,i0,xs,ns,cs,aT,cT,f,l,rfl,rfl,hX,hBF,hFF,hCK,hAT⟩:=hcut
  obtain ⟨w5,hw5⟩:∃ w0:World,w0=wc:=⟨_,rfl⟩
  subst hw5
  have HPP5:=qH (HPP.out.ext OwnQ.ext hX)
  have HCK1:Hid (chkF f l.length=0):=hCK.out.1
  have HCK3:Hid (∀ a∈l,SzA a):=hCK.out.2.2
  have HLN:Hid (l.length≤20):=hCK.out.2.1
  obtain ⟨n,hn⟩:∃ n,l.length=n:=⟨_,rfl⟩
  have HNL:=qH hn
  rw [hn] at HCK1 HLN hAT ⊢
  clear hn hCK
  go_wp2_with (at_make;refine make_bools etB rfl _ _ rfl _ _ n rfl rfl (by have:=HLN.out;omega) (by have:=HLN.out;unfold maxLen;omega) ?_;intro w6 o6 b6;have O6:=qH (BlB.of o6 (len_nays n));clear o6)
  go_loopw [61] (fun t wr=>∃ i:Nat,t=.int .i64 i∧i≤n∧Hid (Ext w5 wr)∧Hid (BlB wr w5.heap.size n 4)) (fun t _=>n - (intOf t).toNat)
  case atStart=>exact ⟨0,rfl,Nat.zero_le _,b6,O6⟩
  case round=>
   clear b6 O6
   obtain ⟨i,rfl,hi,hXr,hB⟩:=hrel
   obtain ⟨wo,hwo⟩:∃ w0:World,w0=wr:=⟨_,rfl⟩
   subst hwo
   by_cases hin:i < n
   ·have hd:=dT ((i:Int) < (n:Int))
    have HJ1:IntKind.i64.wrap ((i:Int)+1)=((i+1:Nat):Int):=by have:=HLN.out;rw [IntKind.wrap_i64];omega
    have HJ2:(0:Int)≤(i:Int)∧(i:Int) < (n:Int):=⟨by omega,by omega⟩
    have hil:i < l.length:=by rw [HNL.out];exact hin
    have hAT':=hAT
    rw [← HNL.out] at hAT'
    obtain ⟨bL,oL,y0,m0,s,y,mm,dd,y',m',d',hae,hbo,hE⟩:=(hAT'.out.rd.ext OwnAt.ext hXr.out).atm i hil
    subst hae
    have HSX:=qH (HCK3.out _ (List.getElem_mem hil))
    obtain ⟨e,he⟩:∃ e,l[i]=e:=⟨_,rfl⟩
    rw [he] at hbo hE HSX
    clear he hil hAT'
    obtain ⟨u0,u1,u2,u3,u4⟩:=hbo.c5
    obtain ⟨w7,hw7,b7,c7,-,-⟩:=bx1 wo [.slice y0 e.1.1.length m0,.bool s,.slice y mm dd,.slice y' m' d',.int .i64 e.2] 144
    have HW:=qH hw7
    have C7:=qH c7
    have HAE:Hid (OwnA w7 (.agg #[.slice y0 e.1.1.length m0,.bool s,.slice y mm dd,.slice y' m' d',.int .i64 e.2]) e):=⟨_,_,_,_,rfl,hE.ext b7⟩
    have HHO:=qH (holdsG_any HAE.out (HPP5.out.rd.ext OwnQ.ext (eT hXr.out b7)) HSX.out HTZ.out)
    clear hw7 c7 hbo hE HAE HSX
    generalize e.1.1.length=ne at*
    generalize e.2=oe at*
    go_upto_region 13 with (fail)
    rw [← HW.out]
    clear HW u0 u1 u2 u3 u4
    obtain ⟨u0,u1,u2,u3,u4⟩:=C7.out.c5
    go_wp2_with fail
    refine HHO.out.mono ?_
    rintro e w8 ⟨_,rfl,b8,bv,zv,rfl⟩
    have B8:=qH (hB.out.ext (eT b7 b8))
    have X8:=qH (eT hXr.out (eT b7 b8))
    clear HHO b7 b8 u0 u1 u2 u3 u4
    obtain ⟨_,g0,g1⟩:=B8.out.at i hin
    go_wp2_with fail
    go_roundw
    case rel=>exact ⟨i+1,rfl,by omega,putL_below (Nat.le_refl _) [_] i X8.out,B8.out.set i bv⟩
    simp [intOf]<;>omega
   obtain rfl:i=n:=by omega
   have hd:=dF ((i:Int) < (i:Int))
   obtain ⟨tl,htl,hrv⟩:=hB.out.rd (by have:=HLN.out;unfold maxLen;omega)
   obtain ⟨kF,hF⟩:=hFF.out
   have HCE:=qH (cext_any (RdFm.ext ⟨kF,hF.rd⟩ hXr.out) hrv (by rw [htl];exact HCK1.out) (by rw [htl];have:=HLN.out;omega))
   have CF:=qH (hBF.out.ext hXr.out)
   clear hrv hF
   obtain ⟨j0,j1,j2⟩:=CF.out.c3
   go_wp2_with fail
   refine HCE.out.mono ?_
   rintro e w8 ⟨_,rfl,b8,ag,mg,cg,lg,rfl,hlg,hge,hmg,hog⟩
   rw [htl] at hge
   have HRF:=qH (hog.rd.firstN (m:=mg - i) oM)
   obtain ⟨r,hr⟩:∃ r,mg - i=r:=⟨_,rfl⟩
   rw [hr] at HRF
   have hk3:IntKind.i64.wrap ((mg:Int) - (i:Int))=(r:Int):=by rw [IntKind.wrap_i64];omega
   obtain ⟨_,_,hsh,hsc,-⟩:=hog.rd.shape
   simp only [Value.slice.injEq] at hsh
   obtain ⟨-,-,rfl⟩:=hsh
   have hk5:r≤cg:=by omega
   clear hsc
   have HX8:=qH (eT b1 (eT X4.out (eT hX (eT hXr.out b8))))
   have HP8:=qH (HPP5.out.ext OwnQ.ext (eT hXr.out b8))
   have HLR:Hid ((lg.take r).length≤100000):=by rw [List.length_take];show _≤_;omega
   have HCLN:=qH (cloneB_any HRF.out HLR.out)
   have hk4:(0:Int)≤(r:Int)∧(r:Int)≤(mg:Int):=⟨by omega,by omega⟩
   clear htl hge hmg hog hlg HCE j0 j1 j2
   go_wp2_with fail
   refine HCLN.out.mono ?_
   rintro e w9 ⟨_,rfl,b9,az,mz,cz,rfl⟩
   go_wp2_with fail
   refine bodyPost_ret (v:=.tuple #[.slice aP P.length kP,.slice az mz cz,.int .i64 0]) (by simp [results,Tryz.results16,go_sem]) rfl ?_
   exact hR.out _ _ (Gives.mk (eT HX8.out b9) ⟨_,_,rfl,HP8.out.ext OwnQ.ext b9⟩)
end Go.Proofs.YtmlhccajicmpfaaGreat
