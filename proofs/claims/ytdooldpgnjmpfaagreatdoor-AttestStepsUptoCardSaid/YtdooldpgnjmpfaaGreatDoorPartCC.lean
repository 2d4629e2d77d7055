/- A group of texts: PFarkRefZ, LastT, PInts22 -/
import Derived.Test.YtdooldpgnjmpfaaGreatDoorSq
import Derived.Test.YtdooldpgnjmpfaaGreatDoorPartCB
import Derived.Test.YtdooldpgnjmpfaaGreatDoorPartAC
import Derived.Test.YtdooldpgnjmpfaaGreatDoorPartBB
namespace Go.Proofs.YtdooldpgnjmpfaaGreatDoor
open Go.RowKit Go.Att

set_option linter.unusedSimpArgs false in
set_option maxHeartbeats 20000000 in
set_option maxRecDepth 100000 in
theorem frefutes_z (K T N:Nat) {w:World} {va vb:Value} {L:List AT} {P:List Rat} (ha:RdRow 5 OwnA w va L) (hb:RdRow 3 (OwnQp 119) w vb P) (hL:∀ a∈L,SmK K a) (hP:∀ p∈P,Sz T p) (hn:L.length≤N) (hN:N≤60) (hKT:N*(K+T+1)+1≤9900) (h9:K+T≤9000):
  Calls Tryz.prog 39 #[va,vb] w (Gives w fun v' _=>∃ t e,v'=.tuple #[.bool t,.int .i64 e]∧RefV L P t e):=by
 refine via fun R hR=>?_
 have HS:=Lib.hid (fsum_z K T N ha hb hL hP hn hN hKT h9)
 clear hL hP hn hN hKT h9
 obtain ⟨aa,ka,rfl,-,-⟩:=ha.shape
 obtain ⟨ab,kb,rfl,-,-⟩:=hb.shape
 clear ha hb
 go_enter Tryz.func39,Tryz.ntmps39
 go_wp2_with fail
 refine HS.out.mono ?_
 rintro e w1 ⟨_,rfl,b1,u,sb,er,rfl,hs⟩
 clear HS
 by_cases hlen:L.length=P.length
 ·by_cases hbad:(L.zip P).any fbad=true
  ·have HRV:Hid (RefV L P false 4):=by show RefV _ _ _ _;unfold RefV;rw [if_neg (fun h=>h hlen),if_pos hbad];exact ⟨rfl,rfl⟩
   unfold SumZ at hs
   rw [if_neg (fun h=>h hlen),if_pos hbad] at hs
   obtain ⟨h1,rfl,rfl⟩:=hs
   obtain ⟨a,k,s,b,m,d,b',m',d',rfl,-,-,-⟩:=h1.op
   clear h1 hlen hbad
   go_wp2_with fail
   exact hR.out _ _ (Gives.mk (Ext.trans b1 (Ext.alloc _ _)) ⟨_,_,rfl,HRV.out⟩)
  ·unfold SumZ at hs
   rw [if_neg (fun h=>h hlen),if_neg hbad] at hs
   obtain ⟨l,h1,h2,h3,rfl,rfl,h4⟩:=hs
   have HRV:Hid (∀ t,(t=true↔l.length=0∧(0 < (fct (L.zip P)).num.sign∨(fct (L.zip P)).num.sign=0∧fst' (L.zip P)=true))→RefV L P t 0):=fun t ht=>by
    unfold RefV
    rw [if_neg (fun h=>h hlen),if_neg hbad]
    refine ⟨rfl,ht.trans ?_⟩
    rw [form_nil h1]
    constructor
    ·rintro ⟨g1,g2⟩
     exact ⟨fun x=>(h2 x).symm.trans (g1 x),g2⟩
    ·rintro ⟨g1,g2⟩
     exact ⟨fun x=>(h2 x).trans (g1 x),g2⟩
   obtain ⟨a,k,s,b,m,d,b',m',d',rfl,-,-,HX⟩:=h4.op
   have HSG:Hid (∀ w',Ext w1 w'→Calls Tryz.prog 69 #[.agg #[.bool s,.slice b m d,.slice b' m' d']] w' (Gives w' fun v' _=>v'=.int .i64 (fct (L.zip P)).num.sign)):=fun w' x=>by
    obtain ⟨_,_,_,_,he,-,h⟩:=HX.out
    simp only [Value.agg.injEq,Array.mk.injEq,List.cons.injEq,and_true] at he
    obtain ⟨rfl,rfl,rfl,rfl⟩:=he
    exact rsign_any (h.rd.ext x)
   clear h1 h2 h3 h4 hlen hbad HX
   generalize (fct (L.zip P)).num.sign=sg at*
   generalize fst' (L.zip P)=st at*
   obtain ⟨w2,hw2,b2,c2,-,-⟩:=bx1 w1 [.slice a l.length k,.bool s,.slice b m d,.slice b' m' d'] 61
   have HW:=Lib.hid hw2
   have C2:=Lib.hid c2
   clear hw2 c2
   go_upto_region 2 with (fail)
   rw [← HW.out]
   clear HW
   obtain ⟨k0,k1,k2,k3⟩:=C2.out.c4
   go_wp2_with fail
   refine (HSG.out _ b2).mono ?_
   rintro e w3 ⟨_,rfl,b3,rfl⟩
   clear k0 k1 k2 k3
   obtain ⟨k0,k1,k2,k3⟩:=(C2.out.ext b3).c4
   have b13:=Ext.trans b1 (Ext.trans b2 b3)
   obtain ⟨n,hn⟩:∃ n,l.length=n:=⟨_,rfl⟩
   rw [hn] at HRV k0 ⊢
   clear hn C2
   by_cases h0:n=0
   ·subst h0
    by_cases hs1:0 < sg
    ·have d1:decide (0 < sg)=true:=decide_eq_true hs1
     go_wp2_with fail
     exact hR.out _ _ (Gives.mk b13 ⟨true,_,rfl,HRV.out true ⟨fun _=>⟨by first | rfl | trivial,.inl hs1⟩,fun _=>rfl⟩⟩)
    ·have d1:decide (0 < sg)=false:=decide_eq_false hs1
     by_cases hs2:sg=0
     ·have d2:(sg == 0)=true:=beqT hs2
      have HV:=Lib.hid (HRV.out st ⟨fun h=>⟨by first | rfl | trivial,.inr ⟨hs2,h⟩⟩,fun h=>by
       rcases h.2 with h | h
       ·exact absurd h hs1
       ·exact h.2⟩)
      clear hs2 hs1
      go_wp2_with fail
      exact hR.out _ _ (Gives.mk b13 ⟨st,_,rfl,HV.out⟩)
     ·have d2:(sg == 0)=false:=beqF hs2
      have HV:=Lib.hid (HRV.out false ⟨fun h=>absurd h (by decide),fun h=>by
       rcases h.2 with h | h
       ·exact absurd h hs1
       ·exact absurd h.1 hs2⟩)
      clear hs2 hs1
      go_wp2_with fail
      exact hR.out _ _ (Gives.mk b13 ⟨false,_,rfl,HV.out⟩)
   ·have d0:((n:Int) == 0)=false:=beqF (by omega)
    have HV:=Lib.hid (HRV.out false ⟨fun h=>absurd h (by decide),fun h=>absurd h.1 h0⟩)
    clear h0
    go_wp2_with fail
    exact hR.out _ _ (Gives.mk b13 ⟨false,_,rfl,HV.out⟩)
 ·have HRV:Hid (RefV L P false 1):=by show RefV _ _ _ _;unfold RefV;rw [if_pos hlen];exact ⟨rfl,rfl⟩
  unfold SumZ at hs
  rw [if_pos hlen] at hs
  obtain ⟨h1,rfl,rfl⟩:=hs
  obtain ⟨a,k,s,b,m,d,b',m',d',rfl,-,-,-⟩:=h1.op
  clear h1 hlen
  go_wp2_with fail
  exact hR.out _ _ (Gives.mk (Ext.trans b1 (Ext.alloc _ _)) ⟨_,_,rfl,HRV.out⟩)
set_option linter.unusedSimpArgs false in
set_option maxHeartbeats 20000000 in
set_option maxRecDepth 100000 in
theorem holds9_z (K M:Nat) {w:World} {va vb:Value} {p:AT} {P:List Rat} (ha:OwnA w va p) (hb:RdRow 3 (OwnQp 119) w vb P) (hs:SmK K p) (hP:∀ q∈P,Sz M q) (hKM:K+M≤5000):
  Calls Tryz.prog 35 #[va,vb] w (Gives w fun v' _=>v'=.tuple #[.bool (if 1≤p.2∧p.2≤3 then holdA p P else false),.int .i64 (chk p.2)]):=by
 refine via fun R hR=>?_
 have HA:=Lib.hid ha
 obtain ⟨a,k,s,b,m,d,b',m',d',rfl,HX⟩:=ha.op
 have HCK:Hid (∀ w',Ext w w'→Calls Tryz.prog 15 #[.agg #[.slice a p.1.1.length k,.bool s,.slice b m d,.slice b' m' d',.int .i64 p.2]] w' (Gives w' fun v' _=>v'=.int .i64 (chk p.2))):=fun w' x=>check9_any (HA.out.ext x)
 have HEV:Hid (∀ w',Ext w w'→Calls Tryz.prog 61 #[.agg #[.slice a p.1.1.length k,.bool s,.slice b m d,.slice b' m' d'],vb] w' (Gives w' fun v' w'=>OwnQ 119 0 w' v' (p.1.2+smv (cf p.1.1) P 0))):=fun w' x=>by
  rw [← tv_smv]
  exact leval_any K M (HX.out.rd.ext x) (hb.ext OwnQ.ext x) hs.2.2.1 hs.2.2.2 hP (by have:=hs.1;omega) hKM
 obtain ⟨ab,kb,rfl,-,-⟩:=hb.shape
 unfold holdA at hR
 clear ha hb hs hP HA HX hKM
 generalize p.1.2+smv (cf p.1.1) P 0=val at*
 generalize p.1.1.length=n at*
 generalize p.2=op at*
 obtain ⟨w1,hw1,b1,c1,-,-⟩:=bx1 w [.slice a n k,.bool s,.slice b m d,.slice b' m' d',.int .i64 op] 63
 have HW:=Lib.hid hw1
 have C1:=Lib.hid c1
 clear hw1 c1
 go_enter Tryz.func35,Tryz.ntmps35
 go_upto_region 1 with (fail)
 rw [← HW.out]
 clear HW
 obtain ⟨k0,k1,k2,k3,k4⟩:=C1.out.c5
 go_wp2_with fail
 refine (HCK.out _ b1).mono ?_
 rintro e w2 ⟨_,rfl,b2,rfl⟩
 clear k0 k1 k2 k3 k4
 have b12:=Ext.trans b1 b2
 dsimp only
 by_cases hop:1≤op∧op≤3
 ·have hc:chk op=0:=if_pos hop
  rw [if_pos hop,hc] at hR
  rw [hc]
  clear hc hop
  have D1:=Lib.hid (C1.out.ext b2)
  go_upto_region 4 with (fail)
  have b3:=drew_ext w2
  have XE:=b3
  refine wp_region_noPanic ?_
  refine wp_region_held_drew (S:=fun w'=>w'.cell? ⟨w.heap.size,0,none⟩=some (.slice a n k)∧w'.cell? ⟨w.heap.size,1,none⟩=some (.bool s)∧w'.cell? ⟨w.heap.size,2,none⟩=some (.slice b m d)∧w'.cell? ⟨w.heap.size,3,none⟩=some (.slice b' m' d')∧w'.cell? ⟨w.heap.size,4,none⟩=some (.int .i64 op)) (by kernel_rfl) ((D1.out.ext XE).c5) (fun hHeld=>?_)
  refine tkH 0 hHeld ?_
  simp only [jP,jA,jB,jC,jD,jE,jF]
  refine tkH 1 hHeld ?_
  simp only [jP,jA,jB,jC,jD,jE,jF]
  refine tkH 2 hHeld ?_
  simp only [jP,jA,jB,jC,jD,jE,jF]
  refine tkH 3 hHeld ?_
  simp only [jP,jA,jB,jC,jD,jE,jF]
  refine tkH 4 hHeld ?_
  simp only [jP,jA,jB,jC,jD,jE,jF]
  refine rdH 5 (by kernel_rfl) rfl (fun K hK=>?_)
  go_simp
  go_at_call 61;refine (HEV.out _ (Ext.trans b12 XE)).mono ?_;rintro e w4 ⟨v4,rfl,b4,o4⟩;have O4:=Lib.hid o4;clear o4;(first | have XE:=Ext.trans XE b4 | have XE:=Ext.trans (Ext.trans XE (Ext.alloc _ _)) b4)
  go_wp2_with fail
  refine hK.out _ _ ((D1.out.ext XE).c5) (fun hHeld=>?_)
  clear hK K
  try simp only [jP,jA,jB,jC,jD,jE,jF]
  refine rdH 6 (by kernel_rfl) rfl (fun K hK=>?_)
  go_simp
  go_at_call 49;refine (says_any O4.out).mono ?_;rintro e w5 ⟨_,rfl,b5,rfl⟩;(first | have XE:=Ext.trans XE b5 | have XE:=Ext.trans (Ext.trans XE (Ext.alloc _ _)) b5)
  go_wp2_with fail
  refine hK.out _ _ ((D1.out.ext XE).c5) (fun hHeld=>?_)
  clear hK K
  try simp only [jP,jA,jB,jC,jD,jE,jF]
  refine tkH 7 hHeld ?_
  simp only [jP,jA,jB,jC,jD,jE,jF]
  refine tkH 8 hHeld ?_
  simp only [jP,jA,jB,jC,jD,jE,jF]
  refine wpAnyH_done (by kernel_rfl) ?_ _
  refine NoPanic.normal ?_
  go_wp2_with fail
  exact hR.out _ _ (Gives.mk (Ext.trans b12 XE) rfl)
 ·have hc:chk op=4:=if_neg hop
  rw [if_neg hop,hc] at hR
  rw [hc]
  clear hc hop
  go_wp2_with fail
  exact hR.out _ _ (Gives.mk b12 rfl)
end Go.Proofs.YtdooldpgnjmpfaaGreatDoor

namespace Go.Att
open Go.RowKit

section
variable {P:Program} {ops:Array Oper} {Q:Exit→Act→World→Prop} {md:Region.Mode} {S:World→Prop} {st:Nat}
def wpAnyT (P:Program) (md:Region.Mode) (ops:Array Oper) (Q:Exit→Act→World→Prop) (st:Nat) (S:World→Prop):Nat→Array Bool→Act→World→Prop
 | 0,l,a,w=>Region.ready md ops l=[]∧Q .normal a w
 | n+1,l,a,w=>(Region.ready md ops l=[]→Q .normal a w)∧
  ∀ i∈Region.ready md ops l,wpOp P ops Q i (fun a' w'=>(i=st→wpAny P md ops Q n (l.setIfInBounds i true) a' w')∧(i≠st→S w'∧wpAnyT P md ops Q st S n (l.setIfInBounds i true) a' w')) a w
theorem wpAny_of_cut:∀ (n:Nat) (l:Array Bool) (a:Act) (w:World),wpAnyT P md ops Q st S n l a w→wpAny P md ops Q n l a w
 | 0,_,_,_,h=>h
 | n+1,_,_,_,h=>⟨h.1,fun i hi=>wpOp_mono (fun a' w' h'=>by
   by_cases e:i=st
   ·exact h'.1 e
   ·exact wpAny_of_cut n _ a' w' (h'.2 e).2) (h.2 i hi)⟩
def chainB (md:Region.Mode) (ops:Array Oper):Nat→List Nat→Bool
 | _,[]=>true
 | x,y :: c=>waitsB md ops y x && chainB md ops y c
theorem getD_un {l:Array Bool} {y:Nat} (h:l.getD y true=false):l.getD y false=false:=by
 rcases Nat.lt_or_ge y l.size with h' | h'
 ·simp [h'] at h ⊢;exact h
 ·simp [Array.getElem?_eq_none h'] at h
theorem chain_un {l:Array Bool}:∀ (c:List Nat) (x:Nat),chainB md ops x c=true→l.getD x false=false→(∀ y∈c,l.getD y true=false)→∀ j∈c,j ∉ Region.ready md ops l
 | [],_,_,_,_,_,hj=>by cases hj
 | y :: c,x,hc,hx,hu,j,hj=>by
  unfold chainB at hc
  rw [Bool.and_eq_true] at hc
  rcases List.mem_cons.1 hj with rfl | hj
  ·intro hr
   obtain ⟨_,o,ho,hall⟩:=mem_ready.1 hr
   have hw:=hc.1
   unfold waitsB at hw
   rw [ho] at hw
   simp only [Array.any_eq_true,Bool.and_eq_true,beq_iff_eq] at hw
   obtain ⟨k,hk,h1,h2⟩:=hw
   have:=hall _ (Array.getElem_mem hk) h1
   rw [h2,hx] at this
   cases this
  ·exact chain_un c y hc.2 (getD_un (hu y List.mem_cons_self)) (fun z hz=>hu z (List.mem_cons_of_mem _ hz)) j hj
theorem wpAnyT_first {i:Nat} {oi:Oper} {v:Value} (hi:ops[i]?=some oi) (hsel:∀ (j:Nat) (o:Oper) cs b,ops[j]?=some o→o.op≠.select cs b)
  (hQ:∀ c a w,Q (.panic c) (a.put oi.dst v) w→Q (.panic c) a w) (c:List Nat) (hc:chainB md ops i c=true) (hsc:st∈c) (hne:i≠st):
  ∀ (n:Nat) (l:Array Bool) (a:Act) (w:World),
   (∀ j oj,ops[j]?=some oj→j≠i→l.getD j true=false→(∀ e∈oj.after,Region.binds md e=true→e.on≠i)→oi.apart ops oj=true)→
   i∈Region.ready md ops l→(∀ y∈c,l.getD y true=false)→YieldsIf P ops S oi v a→S w→
   wpAnyT P md ops Q st S n (l.setIfInBounds i true) (a.put oi.dst v) w→wpAnyT P md ops Q st S (n+1) l a w:=by
 intro n
 induction n with
 | zero=>
  intro l a w _ hr _ hy hS H
  refine ⟨fun h=>(by rw [h] at hr;cases hr),fun j hj=>?_⟩
  by_cases hji:j=i
  ·subst hji;exact hy.wpOp hi hS ⟨fun e=>absurd e hne,fun _=>⟨hS,H⟩⟩
  ·have:=ready_mono hj hji
   rw [H.1] at this
   cases this
 | succ n ih=>
  intro l a w hfree hr hu hy hS H
  refine ⟨fun h=>(by rw [h] at hr;cases hr),fun j hj=>?_⟩
  by_cases hji:j=i
  ·subst hji;exact hy.wpOp hi hS ⟨fun e=>absurd e hne,fun _=>⟨hS,H⟩⟩
  ·have h1:=H.2 j (ready_mono hj hji)
   obtain ⟨hjun,oj,hoj,hall⟩:=mem_ready.1 hj
   have hnot:∀ e∈oj.after,Region.binds md e=true→e.on≠i:=fun e he hb heq=>by
    have h1:=hall e he hb
    have h0:=(mem_ready.1 hr).1
    rw [heq] at h1
    rcases Nat.lt_or_ge i l.size with h' | h'
    ·simp [h'] at h0 h1;rw [h0] at h1;cases h1
    ·simp [Array.getElem?_eq_none h'] at h1
   have hjc:j ∉ c:=fun h=>chain_un c i hc (getD_un (mem_ready.1 hr).1) hu j h hj
   have hfree':∀ k ok,ops[k]?=some ok→k≠i→(l.setIfInBounds j true).getD k true=false→
     (∀ e∈ok.after,Region.binds md e=true→e.on≠i)→oi.apart ops ok=true:=fun k ok hk hki hun hno=>by
    refine hfree k ok hk hki ?_ hno
    by_cases hjk:j=k
    ·subst hjk;exact hjun
    ·rw [getD_set_ne true hjk] at hun;exact hun
   have hu':∀ y∈c,(l.setIfInBounds j true).getD y true=false:=fun y hy=>by
    rw [getD_set_ne true (fun e=>hjc (by rw [e];exact hy))];exact hu y hy
   have h2:=wpOp_putIf hoj (hfree j oj hoj hji hjun hnot) (fun cs b=>hsel i oi cs b hi) (fun cs b=>hsel j oj cs b hoj) hQ hy h1
   have hjs:j≠st:=fun e=>hjc (e ▸ hsc)
   refine wpOp_mono (fun a' w' h3=>⟨fun e=>absurd e hjs,fun _=>⟨(h3.2.2 hjs).1,ih (l.setIfInBounds j true) a' w' hfree' (ready_mono hr (Ne.symm hji)) hu' h3.1 (h3.2.2 hjs).1 ?_⟩⟩) h2
   rw [Array.setIfInBounds_comm _ _ hji]
   exact (h3.2.2 hjs).2
theorem wpAnyT_take {i:Nat} {oi:Oper} {v:Value} {n:Nat} {l:Array Bool} {a:Act} {w:World} (c:List Nat) (hi:ops[i]?=some oi)
  (hs:Region.noSelect ops=true) (hf:Region.free md ops l i=true) (hr:(Region.ready md ops l).contains i=true) (hw:(chainB md ops i c && c.contains st && i != st && c.all fun y=>!(l.getD y true))=true)
  (hQ:∀ c a w,Q (.panic c) (a.put oi.dst v) w→Q (.panic c) a w) (hy:YieldsIf P ops S oi v a) (hS:S w)
  (h:wpAnyT P md ops Q st S n (l.setIfInBounds i true) (a.put oi.dst v) w):wpAnyT P md ops Q st S (n+1) l a w:=by
 simp only [Bool.and_eq_true] at hw
 obtain ⟨⟨⟨h1,h2⟩,h3⟩,h4⟩:=hw
 exact wpAnyT_first hi (Region.noSelect_spec hs) hQ c h1 (by simpa using h2) (by simpa using h3) n l a w (Region.free_spec hi hf) (by simpa using hr) (fun y hy=>by have:=List.all_eq_true.1 h4 y hy;simpa using this) hy hS h
theorem tkT {oi:Oper} {v:Value} {n:Nat} {l:Array Bool} {a:Act} {w:World} (i:Nat) (c:List Nat) (hS:S w)
  (h:wpAnyT P md ops Q st S n (l.setIfInBounds i true) (a.put oi.dst v) w) (hi:ops[i]?=some oi:=by rfl) (hb:(Region.noSelect ops && Region.free md ops l i && (Region.ready md ops l).contains i && (chainB md ops i c && c.contains st && i != st && c.all fun y=>!(l.getD y true)))=true:=by kernel_rfl)
  (hQ:∀ c a w,Q (.panic c) (a.put oi.dst v) w→Q (.panic c) a w:=by exact fun _ _ _ h=>h) (hw:Region.wanted oi (yielded ops a.tmps)=true:=by rfl) (hy:∀ w,S w→(execOp a.eval oi).run P w=.ok (.value v) w:=by (intro w0 hSw;(try dsimp only at hSw);go_simp;try with_reducible rfl)):wpAnyT P md ops Q st S (n+1) l a w:=by
 rw [Bool.and_eq_true,Bool.and_eq_true,Bool.and_eq_true] at hb
 exact wpAnyT_take c hi hb.1.1.1 hb.1.1.2 hb.1.2 hb.2 hQ (.inl ⟨hw,hy⟩) hS h
def AllReadyT (P:Program) (md:Region.Mode) (ops:Array Oper) (Q:Exit→Act→World→Prop) (st:Nat) (S:World→Prop) (n:Nat) (l:Array Bool) (a:Act) (w:World) (rs:List Nat):Prop:=
 ∀ i∈rs,wpOp P ops Q i (fun a' w'=>(i=st→wpAny P md ops Q n (l.setIfInBounds i true) a' w')∧(i≠st→S w'∧wpAnyT P md ops Q st S n (l.setIfInBounds i true) a' w')) a w
theorem AllReadyT.nil {n:Nat} {l:Array Bool} {a:Act} {w:World}:AllReadyT P md ops Q st S n l a w []:=fun _ h=>by cases h
theorem AllReadyT.cons {n:Nat} {l:Array Bool} {a:Act} {w:World} {i:Nat} {o:Oper} {rs:List Nat} (ho:ops[i]?=some o) (hne:(i == st)=false)
  (h:∀ K':Act→World→Prop,Shut (∀ a w,S w→(S w→wpAnyT P md ops Q st S n (l.setIfInBounds i true) a w)→K' a w)→if Region.wanted o (yielded ops a.tmps)=true then Oper.wp P o a w K' Q else K' (a.put o.dst undef) w)
  (hs:AllReadyT P md ops Q st S n l a w rs):AllReadyT P md ops Q st S n l a w (i :: rs):=fun j hj=>by
 rcases List.mem_cons.1 hj with rfl | hj
 ·exact wpOp_step ho (fun K' hK=>h K' (fun a w hS hW=>hK a w ⟨fun e=>by rw [e] at hne;simp at hne,fun _=>⟨hS,hW hS⟩⟩))
 ·exact hs j hj
theorem AllReadyT.cut {n:Nat} {l:Array Bool} {a:Act} {w:World} {o:Oper} (ho:ops[st]?=some o)
  (h:∀ K':Act→World→Prop,Shut (∀ a w,wpAny P md ops Q n (l.setIfInBounds st true) a w→K' a w)→if Region.wanted o (yielded ops a.tmps)=true then Oper.wp P o a w K' Q else K' (a.put o.dst undef) w):
  AllReadyT P md ops Q st S n l a w [st]:=fun j hj=>by
 obtain rfl:=List.mem_singleton.1 hj
 exact wpOp_step ho (fun K' hK=>h K' (fun a w hW=>hK a w ⟨fun _=>hW,fun h=>absurd rfl h⟩))
theorem wpAnyT_ready {rs:List Nat} {n:Nat} {l:Array Bool} {a:Act} {w:World} (hr:Region.ready md ops l=rs) (hne:rs≠[])
  (h:AllReadyT P md ops Q st S n l a w rs):wpAnyT P md ops Q st S (n+1) l a w:=⟨fun h0=>absurd (hr ▸ h0) hne,hr ▸ h⟩
theorem wp_region_cut_drew {id:Nat} {a:Act} {w:World} (hm:P.follows .mixedOrders=true) (hS:S w.drew)
  (h:S w.drew→wpAnyT P .any ops Q st S ops.size (Array.replicate ops.size false) a w.drew):(Code.region id ops true).wp P Q a w:=
 wp_region_any hm (wpAny_of_cut _ _ _ _ (h hS))
end
end Go.Att

namespace Go.Proofs.YtdooldpgnjmpfaaGreatDoor
open Go.RowKit Go.Att

theorem rd_takeI {w:World} {a:Option Addr} {n c k:Nat} {l:List Int} (h:RdRow 1 IntT w (.slice a n c) l) (hk:k≤l.length):RdRow 1 IntT w (.slice a k c) (l.take k):=by
 obtain ⟨a',c',he,h1,h2⟩:=h.shape
 simp only [Value.slice.injEq] at he
 obtain ⟨rfl,rfl,rfl⟩:=he
 cases a with
 | none=>
  obtain ⟨rfl,-,rfl⟩:=nilrow h (by decide)
  simp at hk
  subst hk
  exact h
 | some ad=>
  rcases Nat.eq_zero_or_pos k with h0 | h0
  ·subst h0
   obtain ⟨E,⟨-,a',c',he,-,-,h3,-⟩,-⟩:=h
   refine ⟨[],⟨by simp,some ad,c,rfl,Nat.zero_le _,h2,?_,?_⟩,trivial⟩
   ·intro h;cases h
   ·intro i hi;simp at hi
  ·obtain ⟨b,off,he⟩:=h.some_atI (i:=0) (by omega)
   simp only [Option.some.injEq] at he
   subst he
   refine RdRow.ofInts (by simp;omega) (by simp;omega) h2 fun j hj=>?_
   rw [h.int j (by simp at hj;omega),List.getElem_take]
set_option maxRecDepth 100000 in
set_option linter.unusedSimpArgs false in
set_option maxHeartbeats 4000000 in
theorem ints22_any {w:World} {v:Value} {l:List Int} (h:RdRow 1 IntT w v l):
  Calls Tryz.prog 23 #[v] w (Gives w fun v' w'=>OwnRow 1 IntT 3 w.heap.size w' v' (l.take 40)):=by
 refine via fun R hR=>?_
 obtain ⟨a,c,rfl,h1,h2⟩:=h.shape
 have HV:=Lib.hid h
 have HN:Hid (OwnRow 1 IntT 3 w.heap.size (w.alloc (.cells #[] 3)) (.slice (some ⟨w.heap.size,0,none⟩) 0 0) []):=OwnRow.nilLit _ (Nat.le_refl _)
 obtain ⟨n,hn⟩:∃ n,l.length=n:=⟨_,rfl⟩
 rw [hn] at HV h1 ⊢
 have HL:=Lib.hid hn
 have HC:=Lib.hid h1
 have HM:=Lib.hid h2
 clear h hn h1 h2
 go_enter Tryz.func23,Tryz.ntmps23
 by_cases h40:40 < n
 ·have hd:decide ((n:Int) > 40)=true:=decide_eq_true (by omega)
  have hd':decide (40 < (n:Int))=true:=decide_eq_true (by omega)
  have hc40:40≤c:=by have:=HC.out;omega
  have HT:=Lib.hid (rd_takeI HV.out (k:=40) (by have:=HL.out;omega))
  have HT2:Hid ((l.take 40).length=40):=by rw [List.length_take];have:=HL.out;exact Lib.hid (by omega)
  have HA:Hid (a=none→c=0):=by
   obtain ⟨E,⟨-,a',c',he,-,-,h3,-⟩,-⟩:=HV.out
   simp only [Value.slice.injEq] at he
   obtain ⟨rfl,-,rfl⟩:=he
   exact h3
  cases a with
  | none=>exact absurd (HA.out rfl) (by omega)
  | some ad=>
   go_wp2_with (at_builtin;refine append_rowAL (l:=[]) (m:=l.take 40) etKi (kdI _) (by rfl) _ _ (by rfl) w.heap.size (by rfl) HN.out (by rfl) (HT.out.ext IntT.ext (Ext.alloc _ _)) (by have:=HT2.out;simp;omega) (by have:=HT2.out;unfold maxLen;simp;omega) (Below.size (Ext.alloc _ _)) ?_;intro v8 w8 o8 b8 g8;have X8:Hid (Ext w w8):=(Below.trans (Ext.alloc _ _) b8);have O8:Hid (OwnRow 1 IntT 3 w.heap.size w8 v8 (l.take 40)):=(by rw [List.nil_append] at o8;exact o8);clear o8 g8 b8)
   exact hR.out _ _ (Gives.mk X8.out O8.out)
 ·have hd:decide ((n:Int) > 40)=false:=decide_eq_false (by omega)
  have hd':decide (40 < (n:Int))=false:=decide_eq_false (by omega)
  have HT:Hid (l.take 40=l):=List.take_of_length_le (by have:=HL.out;omega)
  have HTL:Hid (l.length≤40):=by have:=HL.out;exact Lib.hid (by omega)
  go_wp2_with (at_builtin;refine append_rowAL (l:=[]) (m:=l) etKi (kdI _) (by rfl) _ _ (by rfl) w.heap.size (by rfl) HN.out (by rfl) (HV.out.ext IntT.ext (Ext.alloc _ _)) (by have:=HTL.out;simp;omega) (by have:=HTL.out;unfold maxLen;simp;omega) (Below.size (Ext.alloc _ _)) ?_;intro v8 w8 o8 b8 g8;have X8:Hid (Ext w w8):=(Below.trans (Ext.alloc _ _) b8);have O8:Hid (OwnRow 1 IntT 3 w.heap.size w8 v8 l):=(by rw [List.nil_append] at o8;exact o8);clear o8 g8 b8)
  exact hR.out _ _ (Gives.mk X8.out (by rw [HT.out];exact O8.out))
end Go.Proofs.YtdooldpgnjmpfaaGreatDoor
