/- smt.tidied -/
import Derived.Test.YtdooldpgnjmpfaaGreatDoorPartCJ
import Derived.Test.YtdooldpgnjmpfaaGreatDoorPartDA
import Derived.Test.YtdooldpgnjmpfaaGreatDoorPartDB
import Derived.Test.YtdooldpgnjmpfaaGreatDoorPFollows
namespace Go.Att
open Go.RowKit
theorem owns_blk {w:World} {B n:Nat} {t:TypeId} {g cap:Nat} {xs:List Value} (h:w.ownsRow B t 1 (.slice (some ⟨g,0,none⟩) n cap) n xs) (hc:cap=n):Bx w g xs∧Rt w g n t:=by
 obtain ⟨h1,⟨h2,-⟩ | ⟨g',c,cur,hv,-,hh,-,-,hs,ht⟩⟩:=h
 ·cases h2
 ·simp only [Value.slice.injEq,Option.some.injEq,Addr.mk.injEq,and_true] at hv
  obtain ⟨rfl,-,rfl⟩:=hv
  subst hc
  rw [Nat.mul_one] at hs ht
  refine ⟨fun i v hv=>?_,cur,hs,hh⟩
  rw [cell_of_row _ _ _ _ t (0,0) hh]
  rw [← ht] at hv
  obtain ⟨h3,h4⟩:=List.getElem?_eq_some_iff.1 hv
  rw [List.getElem_take] at h4
  rw [← h4]
  simp
end Go.Att
namespace Go.Proofs.YtdooldpgnjmpfaaGreatDoor
open Go.RowKit Go.Att

structure TdI (B:Int) (ats:List AT) (i:Nat) (L:List AT) (T:List Int):Prop where
 tl:T.length=ats.length
 tk:∀ j,j < i→TOk B L.length (gt T j)
 ln:L.length≤i
 mem:∀ a∈L,∃ j,j < i∧∃ h:j < ats.length,a=(canA ats[j]).1∧(canA ats[j]).2=0
 pw:L.Pairwise fun a b=>kyA a≠kyA b
theorem TOk.le {B:Int} {m m':Nat} {z:Int} (h:TOk B m z) (hm:m≤m'):TOk B m' z:=by
 rcases h with h | h | ⟨h1,h2⟩
 ·exact .inl h
 ·exact .inr (.inl h)
 ·exact .inr (.inr ⟨h1,by omega⟩)
theorem TdI.step {B:Int} {ats:List AT} {i:Nat} {L:List AT} {T:List Int} {z:Int} (h:TdI B ats i L T) (hi:i < ats.length) (hz:TOk B L.length z):TdI B ats (i+1) L (T.set i z) where
 tl:=by rw [List.length_set];exact h.tl
 tk:=fun j hj=>by
  rw [gt_set (by rw [h.tl];exact hi)]
  split
  ·exact hz
  ·exact h.tk j (by omega)
 ln:=by have:=h.ln;omega
 mem:=fun a ha=>by
  obtain ⟨j,h1,h2⟩:=h.mem a ha
  exact ⟨j,by omega,h2⟩
 pw:=h.pw
theorem kyA_can {a:AT} (h:(canA a).2=0):kyA (canA a).1=kyA a:=by
 unfold kyA
 rw [canA_idem h]
theorem TdI.snoc {B:Int} {ats:List AT} {i:Nat} {L:List AT} {T:List Int} (h:TdI B ats i L T) (hi:i < ats.length) (h0:(canA ats[i]).2=0) (hk:∀ j (hj:j < ats.length),j < i→kyA ats[j]≠kyA ats[i]):
  TdI B ats (i+1) (L ++ [(canA ats[i]).1]) (T.set i (B+(L.length+1:Nat))) where
 tl:=by rw [List.length_set];exact h.tl
 tk:=fun j hj=>by
  rw [gt_set (by rw [h.tl];exact hi),List.length_append]
  split
  ·exact .inr (.inr ⟨by omega,by simp⟩)
  ·exact (h.tk j (by omega)).le (by omega)
 ln:=by have:=h.ln;rw [List.length_append];simp;omega
 mem:=fun a ha=>by
  rcases List.mem_append.1 ha with ha | ha
  ·obtain ⟨j,h1,h2⟩:=h.mem a ha
   exact ⟨j,by omega,h2⟩
  ·rw [List.mem_singleton.1 ha]
   exact ⟨i,by omega,hi,rfl,h0⟩
 pw:=by
  refine List.pairwise_append.2 ⟨h.pw,List.pairwise_singleton ..,fun a ha b hb=>?_⟩
  rw [List.mem_singleton.1 hb,kyA_can h0]
  obtain ⟨j,h1,h2,rfl,h3⟩:=h.mem a ha
  rw [kyA_can h3]
  exact hk j h2 h1
theorem TdI.good {R B:Int} {ats L:List AT} {T:List Int} {C:List (List Int)} (h:TdI B ats ats.length L T) (R0:0≤R) (R1:R≤400) (B0:0≤B) (B1:B≤1000) (na:ats.length≤40) (hop:∀ a∈ats,1≤a.2∧a.2≤3) (hsm:∀ a∈ats,Smx a.1.1 a.1.2) (hvr:∀ a∈ats,∀ t∈a.1.1,0≤t.1∧t.1 < R)
  (hc:C.length≤60) (hg:∀ c∈C,GoodC (B+L.length) c):GoodP kyA ⟨R,B,L,C⟩ where
 R0:=R0
 R1:=R1
 B0:=B0
 B1:=B1
 na:=by have:=h.ln;dsimp only;omega
 nc:=hc
 ga:=fun a ha=>by
  obtain ⟨j,-,hj,rfl,h0⟩:=h.mem a ha
  have hm:=List.getElem_mem hj
  refine ⟨by rw [canA_idem h0];exact Prod.ext rfl h0,by rw [canA_op h0];exact (hop _ hm).1,by rw [canA_op h0];exact (hop _ hm).2,fun t ht=>?_⟩
  obtain ⟨u,hu,he⟩:=canA_var h0 ht
  rw [← he]
  exact hvr _ hm u hu
 gk:=h.pw
 gc:=hg
 sz:=fun a ha=>by
  obtain ⟨j,-,hj,rfl,h0⟩:=h.mem a ha
  have hm:=hsm _ (List.getElem_mem hj)
  exact canA_sz (K:=8) (M:=8) hm.1 hm.2.1 hm.2.2
theorem fst_le {L:List AT} {j:Nat} {z:Int} (hj:j < L.length) (h:IsFst (L.map kyA) (kyA (gt L j)) z):∃ u:Nat,z=(u:Int)∧u≤j∧(u=j→∀ k (hk:k < L.length),k < j→kyA L[k]≠kyA L[j]):=by
 obtain ⟨i,rfl,h1,h2⟩:=h
 refine ⟨i,rfl,?_,fun he k hk hkj hc=>?_⟩
 ·rcases Nat.lt_or_ge j i with h3 | h3
  ·exact absurd (by rw [List.getElem?_map,List.getElem?_eq_getElem hj,Option.map_some,gt_lt hj]) (h2 j h3)
  ·exact h3
 ·subst he
  exact h2 k hkj (by rw [List.getElem?_map,List.getElem?_eq_getElem hk,Option.map_some,gt_lt hj,hc])
theorem OwnAt.putT {e t t':TypeId} {c m:Nat} {w:World} {v:Value} {p:AT} (h:OwnAt e t w v p) (hc:Rt w c m t') (h1:t≠t') (h2:e≠t') (i:Nat) (cs:List Value):OwnAt e t (Att.putL w c i cs) v p:=by
 obtain ⟨s,x,y,z,rfl,o⟩:=h
 exact ⟨s,x,y,z,rfl,o.putT hc h1 h2 i cs⟩
def OwnPq (w:World) (v:Value) (x:Pq AT):Prop:=∃ a c a' c',v=.agg #[.int .i64 x.1.1,.int .i64 x.1.2,.slice a x.2.1.length c,.slice a' x.2.2.length c']∧OwnRow 5 OwnA 63 0 w (.slice a x.2.1.length c) x.2.1∧OwnRow 1 RwZ 44 0 w (.slice a' x.2.2.length c') x.2.2
theorem OwnPq.rd {w:World} {v:Value} {x:Pq AT} (h:OwnPq w v x):RdPq OwnA (RowT 1 IntT) w v x:=by
 obtain ⟨a,c,a',c',rfl,h1,h2⟩:=h
 exact ⟨a,c,a',c',rfl,h1.rd,RdRow.mono h2.rd fun _ _ h=>RowY.rd h⟩
theorem smx3 {a:AT} (h:Smx a.1.1 a.1.2):Sm3 a:=⟨h.1,fun t ht=>(h.2.1 t ht).le (by decide),h.2.2.le (by decide)⟩
set_option maxRecDepth 100000 in
set_option linter.unusedSimpArgs false in
set_option maxHeartbeats 60000000 in
theorem tidied_any {w:World} {vp:Value} {p:Pq AT} (hp:RdPq OwnA (RowT 1 IntT) w vp p) (R0:0≤p.1.1) (R1:p.1.1≤400) (B0:0≤p.1.2) (B1:p.1.2≤1000) (hna:p.2.1.length≤40) (hnc:p.2.2.length≤60) (hop:∀ a∈p.2.1,1≤a.2∧a.2≤3) (hsm:∀ a∈p.2.1,Smx a.1.1 a.1.2)
  (hvr : ∀ a ∈ p.2.1, ∀ t ∈ a.1.1, 0 ≤ t.1 ∧ t.1 < p.1.1) (hcl : ∀ c ∈ p.2.2, c.length ≤ 64 ∧ ∀ l ∈ c, knownL (p.1.2 + p.2.1.length) l) (ht : Lib.TabIs Tryz.prog w "internal/strconv.uint64pow10" .u64 Lib.pow10Tab) :
  Calls Tryz.prog 18 #[vp] w (Gives w fun v' w'=>∃ x:Pq AT,OwnPq w' v' x∧GoodP kyA (pbQ x)):=by
 refine via fun R hR=>?_
 obtain ⟨aa,ca,aq,cq,rfl,hAT,hCL⟩:=hp
 obtain ⟨⟨pR,pB⟩,ats,cls⟩:=p
 dsimp only at*
 have HAT:=Lib.hid hAT
 have HCL:=Lib.hid hCL
 have HPL:Hid (∀ w',Ext w w'→Calls Tryz.prog 29 #[.slice aa ats.length ca] w' (Gives w' fun v' w''=>∃ K:List Int,OwnRow 1 IntT 3 w'.heap.size w'' v' K∧K.length=ats.length∧∀ i,i < ats.length→∃ z,K[i]?=some z∧IsFst (ats.map kyA) (kyA (gt ats i)) z)):=fun w' x=>
  aplaces_any (hAT.ext OwnAt.ext x) hop (fun a ha=>smx3 (hsm a ha)) (fun a ha t ht'=>by have h1:=hvr a ha t ht';unfold In64;omega) (by omega) (tab_ext ht x)
 have HCN:Hid (∀ w' v a,a∈ats→OwnA w' v a→Calls Tryz.prog 30 #[v] w' (Gives w' fun v' w'=>∃ u,v'=.tuple #[u,.int .i64 (canA a).2,.int .i64 0]∧OwnA w' u (canA a).1)):=fun w' v a ha h=>acanon_any h (hop a ha) (smx3 (hsm a ha))
 have HGD:Hid (∀ L T C,TdI pB ats ats.length L T→C.length≤60→(∀ c∈C,GoodC (pB+L.length) c)→GoodP kyA ⟨pR,pB,L,C⟩):=fun L T C h h1 h2=>h.good R0 R1 B0 B1 hna hop hsm hvr h1 h2
 have HCC:=Lib.hid hcl
 have HB:Hid (0≤pB∧pB≤1000):=⟨B0,B1⟩
 clear hAT hCL R0 R1 B0 B1 hop hsm hvr hcl ht
 obtain ⟨n,hnl⟩:∃ n,ats.length=n:=⟨_,rfl⟩
 have HNA:=Lib.hid hnl
 obtain ⟨nc,hncl⟩:∃ n,cls.length=n:=⟨_,rfl⟩
 have HNC:=Lib.hid hncl
 rw [hnl] at HAT hna HPL HCC HGD ⊢
 rw [hncl] at HCL hnc ⊢
 clear hnl hncl
 obtain ⟨w1,hw1,b1,c1,c2,-,-,hs1⟩:=bx2 w [.int .i64 pR,.int .i64 pB,.slice aa n ca,.slice aq nc cq] [.int .i64 0,.int .i64 0,.slice none 0 0,.slice none 0 0] 34 34
 have HW:=Lib.hid hw1
 have C1:=Lib.hid c1
 have B1:=Lib.hid b1
 have R2:Hid (Rt w1 (w.heap.size+1) 4 34):=by
  show Rt _ _ _ _
  rw [hw1]
  have:=Rt.new (w.alloc (.cells #[.int .i64 pR,.int .i64 pB,.slice aa n ca,.slice aq nc cq] 34)) [.int .i64 0,.int .i64 0,.slice none 0 0,.slice none 0 0] 34
  simpa using this
 clear hw1 c1 c2 b1 hs1
 go_enter Tryz.func18,Tryz.ntmps18
 go_upto_region 1 with (fail)
 rw [← HW.out]
 clear HW
 obtain ⟨k0,k1,k2,k3⟩:=C1.out.c4
 obtain ⟨w2,hw2,b2,c3,-,hs2⟩:=bx1 w1 [.int .i64 pR,.int .i64 pB,.slice none 0 0,.slice none 0 0] 34
 have HW:=Lib.hid hw2
 have R3:Hid (Rt w2 w1.heap.size 4 34):=by
  show Rt _ _ _ _
  rw [hw2]
  exact Rt.new w1 [.int .i64 pR,.int .i64 pB,.slice none 0 0,.slice none 0 0] 34
 have C3:=Lib.hid c3
 have B2:=Lib.hid b2
 have HS2:=Lib.hid hs2
 clear hw2 c3 b2 hs2
 go_upto_region 2 with (fail)
 rw [← HW.out]
 clear HW k0 k1 k2 k3
 obtain ⟨k0,k1,k2,k3⟩:=(C1.out.ext B2.out).c4
 go_wp2_with (at_make;refine make_full etKi rfl _ _ rfl _ _ n rfl rfl (by omega) (by unfold maxLen;omega) ?_)
 intro w3 ho hext
 obtain ⟨hbx,hrt⟩:=owns_blk ho rfl
 have HT3:Hid (Bx w3 w2.heap.size ((List.replicate n (0:Int)).map (Value.int .i64))):=by
  have e:(madeCells #[Value.int .i64 0] n).toList=(List.replicate n (0:Int)).map (Value.int .i64):=by rw [toList_madeCells_one];simp
  rw [e] at hbx
  exact Lib.hid hbx
 have HRT3:=Lib.hid hrt
 have B3:=Lib.hid hext
 obtain ⟨X,hX⟩:∃ X,w1.heap.size=X:=⟨_,rfl⟩
 obtain ⟨bt,hbt⟩:∃ bt,w2.heap.size=bt:=⟨_,rfl⟩
 have HXX:Hid (w1.heap.size≤X):=Nat.le_of_eq hX
 have HBT:Hid (w1.heap.size≤bt):=by have:=Below.size B2.out;exact Lib.hid (by omega)
 have HXB:Hid (X≠bt):=by have:=HS2.out;show _≠_;omega
 have HBT3:Hid (bt < w3.heap.size):=by
  have:=hrt.lt
  exact Lib.hid (by omega)
 rw [hbt] at HT3 HRT3 ⊢
 rw [hX] at R3 C3 ⊢
 have X13:=Lib.hid (Ext.trans B2.out B3.out)
 have HC3:=Lib.hid (C3.out.ext B3.out)
 have HR3:=Lib.hid (R3.out.ext B3.out)
 clear ho hext hbx hrt k0 k1 k2 k3 hX hbt C3 R3
 obtain ⟨k0,k1,k2,k3⟩:=(C1.out.ext X13.out).c4
 go_upto_region 4 with (go_at_call 29;refine (HPL.out _ (Ext.trans B1.out X13.out)).mono ?_;rintro e w4 ⟨_,rfl,X4,K,o4,hk4,hf4⟩;obtain ⟨ak,ck,rfl,-,-⟩:=o4.rd.shape;have HO4:=Lib.hid o4;have HK4:=Lib.hid hk4;have HF4:=Lib.hid hf4;have X34:=Lib.hid X4;clear o4 hk4 hf4)
 clear k0 k1 k2 k3 HPL
 rw [HK4.out] at HO4 ⊢
 have HKB:Hid (∀ g,(Value.slice ak n ck).ownBlock=some g→w3.heap.size≤g):=fun g hg=>(HO4.out.lt g hg).1
 have HKT:=Lib.hid (TyRow.of HO4.out)
 have X14:=Lib.hid (Ext.trans X13.out X34.out)
 have HST:Hid (TdI pB ats 0 [] (List.replicate n 0)):=⟨by rw [List.length_replicate,HNA.out],fun j h=>absurd h (Nat.not_lt_zero _),Nat.le_refl _,(fun a h=>by cases h),List.Pairwise.nil⟩
 have HT4:=Lib.hid (HT3.out.ext X34.out)
 have HRT4:=Lib.hid (HRT3.out.ext X34.out)
 have HC4:=Lib.hid (HC3.out.ext X34.out)
 have HR4:=Lib.hid (HR3.out.ext X34.out)
 clear HO4 HT3 HRT3 HC3 HR3
 go_loopw [27] (fun t wr=>∃ (i:Nat) (L:List AT) (T:List Int) (aL:Option Addr) (kL:Nat),t=.int .i64 i∧i≤n∧Hid (Ext w1 wr)∧Hid (Bx wr X [.int .i64 pR,.int .i64 pB,.slice aL L.length kL,.slice none 0 0])∧Hid (Rt wr X 4 34)∧Hid (OwnRow 5 OwnA 63 w1.heap.size wr (.slice aL L.length kL) L)∧Hid (Bx wr bt (T.map (Value.int .i64)))∧Hid (Rt wr bt n 3)∧Hid (TyRow 1 IntT 3 wr (.slice ak n ck) K)∧Hid (TdI pB ats i L T)) (fun t _=>n - (intOf t).toNat)
 case atStart=>exact ⟨0,[],List.replicate n 0,none,0,rfl,Nat.zero_le _,X14,HC4,HR4,Lib.hid (OwnRow.nil _ _ _),HT4,HRT4,HKT,HST⟩
 case round=>
  clear HC4 HR4 HT4 HRT4 HKT HST
  obtain ⟨i,L,T,aL,kL,rfl,hi,hX,hC,hRt,hO,hT,hRT,hK,HI⟩:=hrel
  obtain ⟨w5,hw5⟩:∃ w0:World,w0=wr:=⟨_,rfl⟩
  subst hw5
  have X05:=Lib.hid (Ext.trans B1.out hX.out)
  by_cases hin:i < n
  ·have hd:decide ((i:Int) < (n:Int))=true:=decide_eq_true (by omega)
   have HJ1:IntKind.i64.wrap ((i:Int)+1)=((i+1:Nat):Int):=by rw [IntKind.wrap_i64];omega
   have HJ2:(0:Int)≤(i:Int)∧(i:Int) < (n:Int):=⟨by omega,by omega⟩
   have hil:i < ats.length:=by rw [HNA.out];exact hin
   have hik:i < K.length:=by rw [HK4.out];exact hin
   have HIN:=Lib.hid hin
   have HIA:=Lib.hid hil
   obtain ⟨bK,oK,heK,hcK⟩:=hK.out.1.intAt i hik
   subst heK
   obtain ⟨z,hz1,hz2⟩:=HF4.out i hin
   rw [List.getElem?_eq_getElem hik,Option.some.injEq] at hz1
   obtain ⟨u,rfl,hui,hfst⟩:=fst_le hil hz2
   rw [hz1] at hcK
   obtain ⟨bA,oA,xa,xk,xs,xb,xm,xd,xb',xm',xd',hae,hbo,hax⟩:=HAT.out.atm i hil
   subst hae
   obtain ⟨u0,u1,u2,u3,u4⟩:=(hbo.ext X05.out).c5
   have HCA:Hid (Calls Tryz.prog 30 #[.agg #[.slice xa ats[i].1.1.length xk,.bool xs,.slice xb xm xd,.slice xb' xm' xd',.int .i64 ats[i].2]] w5 (Gives w5 fun v' w'=>∃ u,v'=.tuple #[u,.int .i64 (canA ats[i]).2,.int .i64 0]∧OwnA w' u (canA ats[i]).1)):=HCN.out _ _ _ (List.getElem_mem hil) ⟨_,_,_,_,rfl,hax.ext X05.out⟩
   have HTT:Hid ((canA ats[i]).2=0∨(canA ats[i]).2=1∨(canA ats[i]).2=2):=by
    show _∨_
    unfold canA
    split
    ·unfold truA;split
     ·exact .inr (.inl rfl)
     ·exact .inr (.inr rfl)
    ·exact .inl rfl
   have HSNO:Hid ((canA ats[i]).2=0→u=i→TdI pB ats (i+1) (L ++ [(canA ats[i]).1]) (T.set i (pB+(L.length+1:Nat)))):=fun h h2=>HI.out.snoc hil h (hfst h2)
   have HUI:=Lib.hid hui
   obtain ⟨c1a,hc1a⟩:∃ c,(canA ats[i]).1=c:=⟨_,rfl⟩
   obtain ⟨tt,htt⟩:∃ t,(canA ats[i]).2=t:=⟨_,rfl⟩
   rw [hc1a,htt] at HCA HSNO
   rw [htt] at HTT
   generalize ats[i].1.1.length=la at*
   generalize ats[i].2=op at*
   clear hbo hax hc1a htt hfst hz1 hz2 hui hil hik
   obtain ⟨k0,k1,k2,k3⟩:=(C1.out.ext hX.out).c4
   go_upto_region 9 with (go_at_call 30;refine HCA.out.mono ?_;rintro e w6 ⟨_,rfl,X6,uu,rfl,o6⟩;obtain ⟨e0,e1,e2,e3,e4,e5,e6,e7,e8,rfl,O6⟩:=OwnAt.op o6;obtain ⟨w7,hw7,b7,c7,-,-⟩:=bx1 w6 [.slice e0 c1a.1.1.length e1,.bool e2,.slice e3 e4 e5,.slice e6 e7 e8,.int .i64 c1a.2] 63;have HW:=Lib.hid hw7;have C7:=Lib.hid c7;have X57:=Lib.hid (Ext.trans X6 b7);have O7:=Lib.hid (OwnAt.ext o6 b7);clear hw7 c7 b7 o6)
   rw [← HW.out]
   clear HW k0 k1 k2 k3 u0 u1 u2 u3 u4 hcK HCA O6
   have HX5:=Lib.hid (Ext.trans hX.out X57.out)
   have HC5:=Lib.hid (hC.out.ext X57.out)
   have HR5:=Lib.hid (hRt.out.ext X57.out)
   have HO5:=Lib.hid (hO.out.ext OwnAt.ext X57.out)
   have HT5:=Lib.hid (hT.out.ext X57.out)
   have HRT5:=Lib.hid (hRT.out.ext X57.out)
   have HK5:=Lib.hid (hK.out.ext IntT.ext X57.out)
   clear hX hC hRt hO hT hRT hK
   rcases HTT.out with h0 | h1 | h2
   ·subst h0
    by_cases hlt:u < i
    ·have d1:decide ((u:Int) < (i:Int))=true:=decide_eq_true (by omega)
     have d1':decide (u < i)=true:=decide_eq_true hlt
     have hul:u < T.length:=by have:=HI.out.tl;have:=HIA.out;omega
     have hcu:w7.cell? ⟨bt,u,none⟩=some (.int .i64 (gt T u)):=HT5.out u _ (by rw [List.getElem?_map,List.getElem?_eq_getElem hul,gt_lt hul];rfl)
     have HTU:=Lib.hid (HI.out.tk u hlt)
     have HJ3:(0:Int)≤(u:Int)∧(u:Int) < (n:Int):=⟨by omega,by omega⟩
     generalize gt T u=zu at*
     clear hul HSNO
     have hfr:=(HRT5.out.rm.at i HIN.out)
     obtain ⟨ov,hov,hfz⟩:=hfr
     go_wp2_with fail
     go_roundw
     case rel=>exact ⟨i+1,L,T.set i zu,aL,kL,by go_num,by omega,putL_below HBT.out [_] i HX5.out,HC5.out.keepC (putL_block bt HXB.out [_] _ i),HR5.out.putL HXB.out i [_],HO5.out.putT HRT5.out (by decide) i [_] (fun _ _ h=>OwnAt.putT h HRT5.out (by decide) (by decide) i [_]),by rw [List.map_set];exact Lib.hid (HT5.out.setAt HRT5.out i HIN.out _),HRT5.out.setAt i _,Lib.hid (HK5.out.keep (fun g hg _=>putL_block bt (fun he=>by have h1:=HKB.out g hg;have h2:=HBT3.out;omega) [_] _ i) fun _ _ h=>h),Lib.hid (HI.out.step HIA.out HTU.out)⟩
     case measure=>simp [intOf] <;> omega
    ·obtain rfl:u=i:=by have:=HUI.out;omega
     have d1:decide ((u:Int) < (u:Int))=false:=decide_eq_false (by omega)
     have HS2:=Lib.hid (HSNO.out rfl rfl)
     obtain ⟨L2,hL2⟩:∃ L2,L ++ [c1a]=L2:=⟨_,rfl⟩
     obtain ⟨m2,hm2⟩:∃ m2,L.length+1=m2:=⟨_,rfl⟩
     have HL2L:Hid (L2.length=m2):=by rw [← hL2,← hm2,List.length_append];exact Lib.hid rfl
     rw [hL2,hm2] at HS2
     have HL2:=Lib.hid hL2
     have HM2:Hid (m2≤41∧L.length≤40):=by have:=HI.out.ln;exact ⟨by omega,by omega⟩
     clear hL2 hm2 HSNO
     obtain ⟨q,hq⟩:∃ q:Int,pB+(m2:Int)=q:=⟨_,rfl⟩
     have hqw:IntKind.i64.wrap (pB+(m2:Int))=q:=by have h1:=HB.out;have h2:=HM2.out;rw [IntKind.wrap_i64];omega
     have hqw':wrap64 (pB+(m2:Int))=q:=by have h1:=HB.out;have h2:=HM2.out;unfold wrap64;omega
     rw [hq] at HS2
     clear hq
     obtain ⟨x0,x1,x2,x3⟩:=HC5.out.c4
     obtain ⟨q0,q1,q2,q3,q4⟩:=C7.out.c5
     have neX:=HO5.out.ne_rt HR5.out (by decide)
     have neT:=HO5.out.ne_rt HRT5.out (by decide)
     go_upto_region 8 with (refine build1W etAt (by rfl) (by rfl) (T:=OwnA) OwnAt.ext (by rfl) [.slice e0 c1a.1.1.length e1,.bool e2,.slice e3 e4 e5,.slice e6 e7 e8,.int .i64 c1a.2] (fill_a1 ..) rfl (by decide) (y:=c1a) O7.out ?_;intro g8 w8 x8 _ l8;refine append_rowGL etAt (kdAt (by decide) (by decide)) (by rfl) _ _ (by rfl) w1.heap.size (by rfl) (HO5.out.ext OwnAt.ext x8) (by rfl) l8.rd (by have:=HM2.out;omega) (by unfold maxLen;have:=HM2.out;omega) (Below.size (Ext.trans HX5.out x8)) ?_;intro v9 w9 o9 b9 g9 _;have RO9:=Lib.hid ((HR5.out.ext x8).grow g9 neX);have DO9:=Lib.hid ((HC5.out.ext x8).grow g9 neX);have RT9:=Lib.hid ((HRT5.out.ext x8).grow g9 neT);have DT9:=Lib.hid ((HT5.out.ext x8).grow g9 neT);obtain ⟨nn,xx,hown⟩:=(HO5.out.ext OwnAt.ext x8).own;have K9:Hid (TyRow 1 IntT 3 w9 (.slice (some ⟨bK,oK,none⟩) n ck) K):=((HK5.out.ext IntT.ext x8).grown (fun _ _ h=>h) hown (by decide) g9);have XW:=Lib.hid (Below.trans (Ext.trans HX5.out x8) b9);have O9:Hid (OwnRow 5 OwnA 63 w1.heap.size w9 v9 L2):=(by rw [← HL2.out];exact o9);obtain ⟨a11,k11,he9,-,-⟩:=O9.out.rd.shape;rw [HL2L.out] at he9;subst he9;obtain ⟨_,_,_,_,y0,y1,y2,y3,f0,f1,f2,f3⟩:=RO9.out.c4;clear o9 b9 g9 l8 x8 hown)
     obtain ⟨w10,hw10⟩:∃ W,W=Att.putL w9 X 2 [.slice a11 m2 k11]:=⟨_,rfl⟩
     rw [show World.setCell w9 ⟨X,2,none⟩ (.slice a11 m2 k11)=w10 from hw10.symm]
     have HC10:Hid (Bx w10 X [.int .i64 pR,.int .i64 pB,.slice a11 m2 k11,.slice none 0 0]):=by rw [hw10];exact Lib.hid (DO9.out.setAt RO9.out 2 (by decide) _)
     have HR10:Hid (Rt w10 X 4 34):=by rw [hw10];exact Lib.hid (RO9.out.setAt 2 _)
     have HO10:Hid (OwnRow 5 OwnA 63 w1.heap.size w10 (.slice a11 m2 k11) L2):=by rw [hw10];exact Lib.hid (O9.out.putT RO9.out (by decide) 2 [_] (fun _ _ h=>OwnAt.putT h RO9.out (by decide) (by decide) 2 [_]))
     have HT10:Hid (Bx w10 bt (T.map (Value.int .i64))):=by rw [hw10];exact Lib.hid (DT9.out.keepC (putL_block X (Ne.symm HXB.out) [_] _ 2))
     have HRT10:Hid (Rt w10 bt n 3):=by rw [hw10];exact Lib.hid (RT9.out.putL (Ne.symm HXB.out) 2 [_])
     have HK10:Hid (TyRow 1 IntT 3 w10 (.slice (some ⟨bK,oK,none⟩) n ck) K):=by rw [hw10];exact Lib.hid (K9.out.putT RO9.out (by decide) 2 [_] fun _ _ h=>h)
     have HX10:Hid (Ext w1 w10):=by rw [hw10];exact Lib.hid (putL_below HXX.out [_] 2 XW.out)
     clear hw10 RO9 DO9 RT9 DT9 K9 XW O9 y0 y1 y2 y3 f0 f1 f2 f3 x0 x1 x2 x3 q0 q1 q2 q3 q4
     obtain ⟨k0,k1,k2,k3⟩:=(C1.out.ext HX10.out).c4
     obtain ⟨x0,x1,x2,x3⟩:=HC10.out.c4
     obtain ⟨ov,hov,hfz⟩:=HRT10.out.rm.at u HIN.out
     go_wp2_with fail
     go_roundw
     case rel=>exact ⟨u+1,L2,T.set u q,a11,k11,by go_num,by omega,putL_below HBT.out [_] u HX10.out,by rw [HL2L.out];exact Lib.hid (HC10.out.keepC (putL_block bt HXB.out [_] _ u)),HR10.out.putL HXB.out u [_],by rw [HL2L.out];exact Lib.hid (HO10.out.putT HRT10.out (by decide) u [_] (fun _ _ h=>OwnAt.putT h HRT10.out (by decide) (by decide) u [_])),by rw [List.map_set];exact Lib.hid (HT10.out.setAt HRT10.out u HIN.out _),HRT10.out.setAt u _,Lib.hid (HK10.out.keep (fun g hg _=>putL_block bt (fun he=>by have h1:=HKB.out g hg;have h2:=HBT3.out;omega) [_] _ u) fun _ _ h=>h),HS2⟩
     case measure=>simp [intOf] <;> omega
   ·subst h1
    clear HSNO
    have hfr:=(HRT5.out.rm.at i HIN.out)
    obtain ⟨ov,hov,hfz⟩:=hfr
    go_wp2_with fail
    go_roundw
    case rel=>exact ⟨i+1,L,T.set i 1099511627776,aL,kL,by go_num,by omega,putL_below HBT.out [_] i HX5.out,HC5.out.keepC (putL_block bt HXB.out [_] _ i),HR5.out.putL HXB.out i [_],HO5.out.putT HRT5.out (by decide) i [_] (fun _ _ h=>OwnAt.putT h HRT5.out (by decide) (by decide) i [_]),by rw [List.map_set];exact Lib.hid (HT5.out.setAt HRT5.out i HIN.out _),HRT5.out.setAt i _,Lib.hid (HK5.out.keep (fun g hg _=>putL_block bt (fun he=>by have h1:=HKB.out g hg;have h2:=HBT3.out;omega) [_] _ i) fun _ _ h=>h),Lib.hid (HI.out.step HIA.out (.inl rfl))⟩
    case measure=>simp [intOf] <;> omega
   ·subst h2
    clear HSNO
    have hfr:=(HRT5.out.rm.at i HIN.out)
    obtain ⟨ov,hov,hfz⟩:=hfr
    go_wp2_with fail
    go_roundw
    case rel=>exact ⟨i+1,L,T.set i (-1099511627776),aL,kL,by go_num,by omega,putL_below HBT.out [_] i HX5.out,HC5.out.keepC (putL_block bt HXB.out [_] _ i),HR5.out.putL HXB.out i [_],HO5.out.putT HRT5.out (by decide) i [_] (fun _ _ h=>OwnAt.putT h HRT5.out (by decide) (by decide) i [_]),by rw [List.map_set];exact Lib.hid (HT5.out.setAt HRT5.out i HIN.out _),HRT5.out.setAt i _,Lib.hid (HK5.out.keep (fun g hg _=>putL_block bt (fun he=>by have h1:=HKB.out g hg;have h2:=HBT3.out;omega) [_] _ i) fun _ _ h=>h),Lib.hid (HI.out.step HIA.out (.inr (.inl rfl)))⟩
    case measure=>simp [intOf] <;> omega
  ·obtain rfl:i=n:=by omega
   have hd:decide ((i:Int) < (i:Int))=false:=decide_eq_false (by omega)
   have HTOK:Hid (∀ z∈T,TOk pB L.length z):=fun z hz=>by
    obtain ⟨j,hj,rfl⟩:=List.getElem_of_mem hz
    rw [← gt_lt hj]
    exact HI.out.tk j (by have:=HI.out.tl;have:=HNA.out;omega)
   have HTL:Hid (T.length=i):=by rw [HI.out.tl];exact HNA
   have HM40:Hid (L.length≤40):=by have:=HI.out.ln;exact Lib.hid (by omega)
   have HGO:Hid (∀ C,C.length≤60→(∀ c∈C,GoodC (pB+L.length) c)→GoodP kyA ⟨pR,pB,L,C⟩):=fun C h1 h2=>HGD.out L T C HI.out h1 h2
   clear HI HGD hK HF4 HK4 HKB
   obtain ⟨m,hm⟩:∃ m,L.length=m:=⟨_,rfl⟩
   have HLM:=Lib.hid hm
   rw [hm] at hC hO HTOK HM40 HGO
   clear hm
   obtain ⟨k0,k1,k2,k3⟩:=(C1.out.ext hX.out).c4
   go_upto_region 17 with fail
   clear k0 k1 k2 k3 hd hin
   go_loopw [84] (fun t wr=>∃ (j:Nat) (C:List (List Int)) (aC:Option Addr) (kC:Nat),t=.int .i64 j∧j≤nc∧Hid (Ext w1 wr)∧Hid (Bx wr X [.int .i64 pR,.int .i64 pB,.slice aL m kL,.slice aC C.length kC])∧Hid (Rt wr X 4 34)∧Hid (OwnRow 5 OwnA 63 w1.heap.size wr (.slice aL m kL) L)∧Hid (Bx wr bt (T.map (Value.int .i64)))∧Hid (Rt wr bt i 3)∧Hid (OwnRow 1 RwZ 44 w1.heap.size wr (.slice aC C.length kC) C)∧Hid (C.length≤j)∧Hid (∀ c∈C,GoodC (pB+m) c)) (fun t _=>nc - (intOf t).toNat)
   case atStart=>exact ⟨0,[],none,0,rfl,Nat.zero_le _,hX,hC,hRt,hO,hT,hRT,Lib.hid (OwnRow.nil _ _ _),Lib.hid (Nat.le_refl _),Lib.hid fun c h=>by cases h⟩
   case round=>
    clear hX hC hRt hO hT hRT
    obtain ⟨j,C,aC,kC,rfl,hj,hX,hC,hRt,hO,hT,hRT,hCO,hCn,hCg⟩:=hrel
    obtain ⟨w5,hw5⟩:∃ w0:World,w0=wr:=⟨_,rfl⟩
    subst hw5
    have X05:=Lib.hid (Ext.trans B1.out hX.out)
    by_cases hjn:j < nc
    ·have hd:decide ((j:Int) < (nc:Int))=true:=decide_eq_true (by omega)
     have HJ1:IntKind.i64.wrap ((j:Int)+1)=((j+1:Nat):Int):=by rw [IntKind.wrap_i64];omega
     have HJ2:(0:Int)≤(j:Int)∧(j:Int) < (nc:Int):=⟨by omega,by omega⟩
     have hjl:j < cls.length:=by rw [HNC.out];exact hjn
     obtain ⟨bC,oC,xC,mC,he,hce,hrr⟩:=RdRow.rowC (HCL.out.ext (fun h x=>RowT.ext h IntT.ext x) X05.out) j hjl
     subst he
     have HCJ:=Lib.hid (HCC.out _ (List.getElem_mem hjl))
     obtain ⟨c,hc⟩:∃ c,cls[j]=c:=⟨_,rfl⟩
     rw [hc] at hce hrr HCJ
     have HTR:Hid (RdRow 1 IntT w5 (.slice (some ⟨bt,0,none⟩) i i) T):=RdRow.ofInts HTL.out.symm (by rw [HTL.out];exact Nat.le_refl _) (by unfold maxLen;omega) fun u hu=>by
      rw [Nat.zero_add]
      exact hT.out u _ (by rw [List.getElem?_map,List.getElem?_eq_getElem hu];rfl)
     have HRN:=Lib.hid (renamed_any (B:=pB) (m:=m) HTR.out hrr HB.out.1 HB.out.2 (by have:=HM40.out;omega) HTOK.out (by rw [HTL.out];exact HCJ.out.2) (fun l hl=>by have h1:=(HCJ.out.2 l hl).2.2;have h2:=HB.out;unfold In64;omega) HCJ.out.1 (by rw [HTL.out];omega))
     generalize c.length=lc at*
     clear hrr hc hjl HTR
     obtain ⟨k0,k1,k2,k3⟩:=(C1.out.ext hX.out).c4
     go_upto_region 20 with (go_at_call 31;refine HRN.out.mono ?_;rintro e w6 ⟨_,rfl,X6,p6,n6,k6,b6,rfl,h6⟩;have H6:=Lib.hid h6;have X56:=Lib.hid X6;clear h6)
     clear k0 k1 k2 k3 hce HRN
     have HX5:=Lib.hid (Ext.trans hX.out X56.out)
     have HC5:=Lib.hid (hC.out.ext X56.out)
     have HR5:=Lib.hid (hRt.out.ext X56.out)
     have HO5:=Lib.hid (hO.out.ext OwnAt.ext X56.out)
     have HT5:=Lib.hid (hT.out.ext X56.out)
     have HRT5:=Lib.hid (hRT.out.ext X56.out)
     have HCO5:=Lib.hid (hCO.out.ext rwz_ext X56.out)
     clear hX hC hRt hO hT hRT hCO
     cases b6 with
     | false=>
      go_wp2_with fail
      go_roundw
      case rel=>exact ⟨j+1,C,aC,kC,by go_num,by omega,HX5,HC5,HR5,HO5,HT5,HRT5,HCO5,Lib.hid (by have:=hCn.out;omega),hCg⟩
      case measure=>simp [intOf] <;> omega
     | true=>
      obtain ⟨r,hr6,hty,hgc⟩:=H6.out rfl
      subst hr6
      have HRY:Hid (RwZ w6 (.agg #[.slice p6 r.length k6]) r):=⟨_,_,rfl,hty⟩
      have HGC:=Lib.hid hgc
      clear H6 hty hgc
      obtain ⟨C2,hC2⟩:∃ C2,C ++ [r]=C2:=⟨_,rfl⟩
      obtain ⟨m2,hm2⟩:∃ m2,C.length+1=m2:=⟨_,rfl⟩
      have HC2L:Hid (C2.length=m2):=by rw [← hC2,← hm2,List.length_append];exact Lib.hid rfl
      have HC2:=Lib.hid hC2
      have HM2:Hid (C.length≤60∧m2≤j+1):=by have:=hCn.out;exact ⟨by omega,by omega⟩
      have HG2:Hid (∀ c∈C2,GoodC (pB+m) c):=fun c hc=>by
       rw [← hC2] at hc
       exact (List.mem_append.1 hc).elim (hCg.out c) fun h=>by rw [List.mem_singleton.1 h];exact HGC.out
      clear hC2 hm2
      obtain ⟨x0,x1,x2,x3⟩:=HC5.out.c4
      have neX:=HCO5.out.ne_rt HR5.out (by decide)
      have neT:=HCO5.out.ne_rt HRT5.out (by decide)
      generalize r.length=lr at*
      go_wp2_with (refine build1W etCs (by rfl) (by rfl) (T:=RwZ) rwz_ext (by rfl) [.slice p6 lr k6] (fill_s1 ..) rfl (by decide) (y:=r) HRY.out ?_;intro g8 w8 x8 _ l8;refine append_rowGL etCs (kdY (by decide) (kdI _)) (by rfl) _ _ (by rfl) w1.heap.size (by rfl) (HCO5.out.ext rwz_ext x8) (by rfl) l8.rd (by have:=HM2.out;omega) (by unfold maxLen;have:=HM2.out;omega) (Below.size (Ext.trans HX5.out x8)) ?_;intro v9 w9 o9 b9 g9 _;have RO9:=Lib.hid ((HR5.out.ext x8).grow g9 neX);have DO9:=Lib.hid ((HC5.out.ext x8).grow g9 neX);have RT9:=Lib.hid ((HRT5.out.ext x8).grow g9 neT);have DT9:=Lib.hid ((HT5.out.ext x8).grow g9 neT);obtain ⟨nn,xx,hown⟩:=(HCO5.out.ext rwz_ext x8).own;have OA9:Hid (OwnRow 5 OwnA 63 w1.heap.size w9 (.slice aL m kL) L):=(OwnRow.grown (HO5.out.ext OwnAt.ext x8) (fun _ _ h=>(kdAt (by decide) (by decide)).grown h hown g9) hown (by decide) g9);have XW:=Lib.hid (Below.trans (Ext.trans HX5.out x8) b9);have O9:Hid (OwnRow 1 RwZ 44 w1.heap.size w9 v9 C2):=(by rw [← HC2.out];exact o9);obtain ⟨a11,k11,he9,-,-⟩:=O9.out.rd.shape;rw [HC2L.out] at he9;subst he9;obtain ⟨_,_,_,_,y0,y1,y2,y3,f0,f1,f2,f3⟩:=RO9.out.c4;clear o9 b9 g9 l8 x8 hown)
      go_roundw
      case rel=>exact ⟨j+1,C2,a11,k11,by go_num,by omega,putL_below HXX.out [_] 3 XW.out,by rw [HC2L.out];exact Lib.hid (DO9.out.setAt RO9.out 3 (by decide) _),RO9.out.setAt 3 _,OA9.out.putT RO9.out (by decide) 3 [_] (fun _ _ h=>OwnAt.putT h RO9.out (by decide) (by decide) 3 [_]),DT9.out.keepC (putL_block X (Ne.symm HXB.out) [_] _ 3),RT9.out.putL (Ne.symm HXB.out) 3 [_],by rw [HC2L.out];exact Lib.hid (O9.out.putT RO9.out (by decide) 3 [_] (fun _ _ h=>RowY.putT h RO9.out (by decide) 3 [_] fun _ _ h=>h)),by rw [HC2L.out];exact Lib.hid HM2.out.2,HG2⟩
      case measure=>simp [intOf] <;> omega
    ·obtain rfl:j=nc:=by omega
     have hd:decide ((j:Int) < (j:Int))=false:=decide_eq_false (by omega)
     have HGP:=Lib.hid (HGO.out C (by have:=hCn.out;omega) hCg.out)
     have R25:=Lib.hid (R2.out.ext hX.out)
     obtain ⟨x0,x1,x2,x3⟩:=hC.out.c4
     obtain ⟨_,_,_,_,y0,y1,y2,y3,f0,f1,f2,f3⟩:=R25.out.c4
     go_wp2_with fail
     refine bodyPost_ret (v:=.agg #[.int .i64 pR,.int .i64 pB,.slice aL m kL,.slice aC C.length kC]) (by simp [results,Tryz.results18,go_sem,y0,y1,y2,y3]) rfl ?_
     refine hR.out _ _ (Gives.mk (putL_below (by omega) [_,_,_,_] 0 X05.out) ⟨((pR,pB),L,C),⟨aL,kL,aC,kC,by rw [HLM.out],?_,?_⟩,HGP.out⟩)
     ·dsimp only
      rw [HLM.out]
      exact (hO.out.mono (Nat.zero_le _)).putT R25.out (by decide) 0 [_,_,_,_] (fun _ _ h=>OwnAt.putT h R25.out (by decide) (by decide) 0 [_,_,_,_])
     ·exact (hCO.out.mono (Nat.zero_le _)).putT R25.out (by decide) 0 [_,_,_,_] (fun _ _ h=>RowY.putT h R25.out (by decide) 0 [_,_,_,_] fun _ _ h=>h)
end Go.Proofs.YtdooldpgnjmpfaaGreatDoor
