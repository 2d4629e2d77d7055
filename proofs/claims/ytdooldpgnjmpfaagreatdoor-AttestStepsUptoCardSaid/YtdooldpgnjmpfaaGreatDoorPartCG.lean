/- A group of texts: POpp, MapZ, Key5, MapF, PRatWhole, Conv, Dig -/
import Derived.Test.YtdooldpgnjmpfaaGreatDoorPartCF
import Derived.Test.YtdooldpgnjmpfaaGreatDoorPartAJ
import Derived.Test.YtdooldpgnjmpfaaGreatDoorPartAI
import Derived.Test.YtdooldpgnjmpfaaGreatDoorPartAC
import Derived.Maps.OwnOps
import Derived.DeepKeys4
import Derived.Test.YtdooldpgnjmpfaaGreatDoorPartAB
import Derived.Test.YtdooldpgnjmpfaaGreatDoorPartAE
import Derived.Laws.IdiomStrings
import Derived.Test.YtdooldpgnjmpfaaGreatDoorPartAA
namespace Go.Proofs.YtdooldpgnjmpfaaGreatDoor
open Go.RowKit Go.Att

set_option linter.unusedSimpArgs false in
set_option maxHeartbeats 20000000 in
set_option maxRecDepth 100000 in
theorem opp_any {C:World→Value→List Int→Prop} {w:World} {vp:Value} {p:Pq AT} {l:Int} (hp:RdPq OwnA C w vp p) (hl:In64 l) (hB0:0≤p.1.2) (hB1:p.1.2≤1000) (hA:p.2.1.length≤1000) (hg:∀ a∈p.2.1,Sm3 a∧1≤a.2∧a.2≤3):
  Calls Tryz.prog 38 #[vp,.int .i64 l] w (Gives w fun v' w'=>∃ u b a,v'=.tuple #[u,.bool b]∧OwnA w' u a∧(b=true→a=oppL ⟨p.1.1,p.1.2,p.2.1,p.2.2⟩ l∧oppOk ⟨p.1.1,p.1.2,p.2.1,p.2.2⟩ l)):=by
 refine via fun R hR=>?_
 obtain ⟨aa,ca,aq,cq,rfl,hAT,-⟩:=hp
 obtain ⟨⟨pR,pB⟩,ats,cls⟩:=p
 dsimp only at*
 have HAT:=Lib.hid hAT
 have HG:=Lib.hid hg
 have HB:Hid (0≤pB∧pB≤1000):=⟨hB0,hB1⟩
 have HLA:=Lib.hid hA
 have HI:=Lib.hid hl
 have HNEG:Hid (∀ i:Nat,(l.natAbs:Int) - 1 - pB=(i:Int)→∀ h:i < ats.length,l < 0→ats[i]=oppL ⟨pR,pB,ats,cls⟩ l∧oppOk ⟨pR,pB,ats,cls⟩ l):=fun i hi h hl0=>by
  have e:((l.natAbs:Int) - 1 - pB).toNat=i:=by omega
  refine ⟨?_,by dsimp only;omega,by dsimp only;omega,fun h0=>absurd h0 (by omega)⟩
  unfold oppL
  dsimp only
  rw [if_pos hl0,e,gt_lt h]
 have HPOS:Hid (∀ i:Nat,(l.natAbs:Int) - 1 - pB=(i:Int)→∀ h:i < ats.length,0 < l→ats[i].2≠3→oppA ats[i]=oppL ⟨pR,pB,ats,cls⟩ l∧oppOk ⟨pR,pB,ats,cls⟩ l):=fun i hi h hl0 h3=>by
  have e:((l.natAbs:Int) - 1 - pB).toNat=i:=by omega
  refine ⟨?_,by dsimp only;omega,by dsimp only;omega,fun _=>by dsimp only;rw [e,gt_lt h];exact h3⟩
  unfold oppL
  dsimp only
  rw [if_neg (by omega),e,gt_lt h]
 clear hAT hg hB0 hB1 hA hl
 generalize oppL ⟨pR,pB,ats,cls⟩ l=oL at*
 generalize oppOk ⟨pR,pB,ats,cls⟩ l=oK at*
 obtain ⟨na,hna⟩:∃ na,ats.length=na:=⟨_,rfl⟩
 have HNA:=Lib.hid hna
 rw [hna] at HAT HLA ⊢
 clear hna
 generalize cls.length=nc at*
 obtain ⟨w1,hw1,b1,c1,c2,-,-,-⟩:=bx2 w [.int .i64 pR,.int .i64 pB,.slice aa na ca,.slice aq nc cq] [.slice none 0 0,.bool false,.slice none 0 0,.slice none 0 0,.int .i64 0] 34 63
 have HW:=Lib.hid hw1
 have C1:=Lib.hid c1
 have B1:=Lib.hid b1
 have R2:Hid (Rt w1 (w.heap.size+1) 5 63):=by
  show Rt _ _ _ _
  rw [hw1]
  have:=Rt.new (w.alloc (.cells #[.int .i64 pR,.int .i64 pB,.slice aa na ca,.slice aq nc cq] 34)) [.slice none 0 0,.bool false,.slice none 0 0,.slice none 0 0,.int .i64 0] 63
  simpa using this
 clear hw1 c1 c2 b1
 go_enter Tryz.func38,Tryz.ntmps38
 go_upto_region 1 with (fail)
 rw [← HW.out]
 clear HW
 obtain ⟨k0,k1,k2,k3⟩:=C1.out.c4
 obtain ⟨_,_,_,_,_,j0,j1,j2,j3,j4,i0,i1,i2,i3,i4⟩:=R2.out.c5
 by_cases h0:l=0
 ·subst h0
  go_wp2_with fail
  refine bodyPost_ret (v:=.tuple #[.agg #[.slice none 0 0,.bool false,.slice none 0 0,.slice none 0 0,.int .i64 0],.bool false]) (by simp [results,Tryz.results38,go_sem,j0,j1,j2,j3,j4]) rfl ?_
  exact hR.out _ _ (Gives.mk (putL_below (by omega) [_,_,_,_,_] 0 (Ext.trans B1.out (Ext.refl _))) ⟨_,_,(([],0),0),rfl,owna_nil _,fun h=>by cases h⟩)
 ·have e0:(l == 0)=false:=beq_false_of_ne h0
  have e0':decide (l=0)=false:=decide_eq_false h0
  by_cases hm:l = -9223372036854775808
  ·subst hm
   go_wp2_with fail
   refine bodyPost_ret (v:=.tuple #[.agg #[.slice none 0 0,.bool false,.slice none 0 0,.slice none 0 0,.int .i64 0],.bool false]) (by simp [results,Tryz.results38,go_sem,j0,j1,j2,j3,j4]) rfl ?_
   exact hR.out _ _ (Gives.mk (putL_below (by omega) [_,_,_,_,_] 0 (Ext.trans B1.out (Ext.refl _))) ⟨_,_,(([],0),0),rfl,owna_nil _,fun h=>by cases h⟩)
  ·have e1:(l == -9223372036854775808)=false:=beq_false_of_ne hm
   have e1':decide (l = -9223372036854775808)=false:=decide_eq_false hm
   obtain ⟨m,hmm⟩:∃ m:Int,-l=m:=⟨_,rfl⟩
   have hneg:IntKind.i64.wrap (-l)=m:=by obtain ⟨g1,g2⟩:=HI.out;rw [IntKind.wrap_i64];omega
   obtain ⟨n,hn⟩:∃ n:Int,(l.natAbs:Int) - 1=n:=⟨_,rfl⟩
   have hn0:0≤n∧n < 9223372036854775807:=by obtain ⟨g1,g2⟩:=HI.out;omega
   have hmx:IntKind.i64.wrap (max l m - 1)=n:=by rw [IntKind.wrap_i64,Int.max_def];split <;> omega
   have hmx':wrap64 (max l m - 1)=n:=by unfold wrap64;rw [Int.max_def];split <;> omega
   obtain ⟨q,hq⟩:∃ q:Int,n - pB=q:=⟨_,rfl⟩
   have hqw:IntKind.i64.wrap (n - pB)=q:=by have:=HB.out;rw [IntKind.wrap_i64];omega
   have hqw':wrap64 (n - pB)=q:=by have:=HB.out;unfold wrap64;omega
   have HQ:Hid ((l.natAbs:Int) - 1 - pB=q):=by show _=_;omega
   have HL0:Hid (l≠0):=h0
   clear h0 hm hmm hn hn0 hq
   by_cases hq0:q < 0
   ·have d0:decide (q < 0)=true:=decide_eq_true hq0
    go_wp2_with fail
    refine bodyPost_ret (v:=.tuple #[.agg #[.slice none 0 0,.bool false,.slice none 0 0,.slice none 0 0,.int .i64 0],.bool false]) (by simp [results,Tryz.results38,go_sem,j0,j1,j2,j3,j4]) rfl ?_
    exact hR.out _ _ (Gives.mk (putL_below (by omega) [_,_,_,_,_] 0 (Ext.trans B1.out (Ext.refl _))) ⟨_,_,(([],0),0),rfl,owna_nil _,fun h=>by cases h⟩)
   ·have d0:decide (q < 0)=false:=decide_eq_false hq0
    obtain ⟨i,hi⟩:∃ i:Nat,q=(i:Int):=⟨q.toNat,by omega⟩
    subst hi
    by_cases hqn:na≤i
    ·have d1:decide ((i:Int) ≥ (na:Int))=true:=decide_eq_true (by omega)
     have d1':decide ((na:Int)≤(i:Int))=true:=decide_eq_true (by omega)
     have d1'':decide (na≤i)=true:=decide_eq_true (by omega)
     go_wp2_with fail
     refine bodyPost_ret (v:=.tuple #[.agg #[.slice none 0 0,.bool false,.slice none 0 0,.slice none 0 0,.int .i64 0],.bool false]) (by simp [results,Tryz.results38,go_sem,j0,j1,j2,j3,j4]) rfl ?_
     exact hR.out _ _ (Gives.mk (putL_below (by omega) [_,_,_,_,_] 0 (Ext.trans B1.out (Ext.refl _))) ⟨_,_,(([],0),0),rfl,owna_nil _,fun h=>by cases h⟩)
    ·have d1:decide ((i:Int) ≥ (na:Int))=false:=decide_eq_false (by omega)
     have d1':decide ((na:Int)≤(i:Int))=false:=decide_eq_false (by omega)
     have d1'':decide (na≤i)=false:=decide_eq_false (by omega)
     have hil:i < ats.length:=by rw [HNA.out];omega
     have HJ2:(0:Int)≤(i:Int)∧(i:Int) < (na:Int):=⟨by omega,by omega⟩
     obtain ⟨bA,oA,xa,xk,xs,xb,xm,xd,xb',xm',xd',hae,hbo,hax⟩:=HAT.out.atm i hil
     subst hae
     obtain ⟨u0,u1,u2,u3,u4⟩:=(hbo.ext B1.out).c5
     have HGA:=Lib.hid (HG.out _ (List.getElem_mem hil))
     have HN1:=Lib.hid (HNEG.out i HQ.out hil)
     have HP1:=Lib.hid (HPOS.out i HQ.out hil)
     obtain ⟨a,ha⟩:∃ a,ats[i]=a:=⟨_,rfl⟩
     rw [ha] at u0 u4 hax HGA HN1 HP1
     have HAX:=Lib.hid (hax.ext B1.out)
     have HNT:Hid (Calls Tryz.prog 67 #[.agg #[.slice xa a.1.1.length xk,.bool xs,.slice xb xm xd,.slice xb' xm' xd',.int .i64 a.2]] w1 (Gives w1 fun v' w'=>∃ ad n k,v'=.tuple #[.slice ad n k,.int .i64 0]∧(a.2=3→n=2)∧(a.2≠3→n=1∧RdRow 5 OwnA w' (.slice ad n k) [oppA a]))):=by
      exact anot_any ⟨_,_,_,_,rfl,HAX.out⟩ HGA.out.2 HGA.out.1
     clear hbo hax ha HNEG HPOS hil hqn
     by_cases hl0:l < 0
     ·have d2:decide (l < 0)=true:=decide_eq_true hl0
      have HOK:=Lib.hid (HN1.out hl0)
      go_wp2_with fail
      refine bodyPost_ret (v:=.tuple #[.agg #[.slice xa a.1.1.length xk,.bool xs,.slice xb xm xd,.slice xb' xm' xd',.int .i64 a.2],.bool true]) (by simp [results,Tryz.results38,go_sem,j0,j1,j2,j3,j4]) rfl ?_
      exact hR.out _ _ (Gives.mk (putL_below (by omega) [_,_,_,_,_] 0 B1.out) ⟨_,_,a,rfl,⟨_,_,_,_,rfl,HAX.out.putT R2.out (by decide) (by decide) 0 [_,_,_,_,_]⟩,fun _=>HOK.out⟩)
     ·have d2:decide (l < 0)=false:=decide_eq_false hl0
      have hl1:0 < l:=by have:=HL0.out;omega
      have HP2:=Lib.hid (HP1.out hl1)
      clear HP1 HN1 hl0 hl1 j0 j1 j2 j3 j4 i0 i1 i2 i3 i4
      go_upto_region 9 with (go_at_call 67;refine HNT.out.mono ?_;rintro e w3 ⟨_,rfl,X3,ad,nn,kk,rfl,h3,h4⟩;have X3:=Lib.hid X3;have H3:=Lib.hid h3;have H4:=Lib.hid h4;clear h3 h4)
      clear u0 u1 u2 u3 u4 k0 k1 k2 k3 HNT
      obtain ⟨_,_,_,_,_,j0,j1,j2,j3,j4,i0,i1,i2,i3,i4⟩:=(R2.out.ext X3.out).c5
      by_cases h3:a.2=3
      ·have hn2:=H3.out h3
       subst hn2
       go_wp2_with fail
       refine bodyPost_ret (v:=.tuple #[.agg #[.slice none 0 0,.bool false,.slice none 0 0,.slice none 0 0,.int .i64 0],.bool false]) (by simp [results,Tryz.results38,go_sem,j0,j1,j2,j3,j4]) rfl ?_
       exact hR.out _ _ (Gives.mk (putL_below (by omega) [_,_,_,_,_] 0 (Ext.trans B1.out X3.out)) ⟨_,_,(([],0),0),rfl,owna_nil _,fun h=>by cases h⟩)
      ·obtain ⟨hn1,hrd⟩:=H4.out h3
       subst hn1
       have HOK:=Lib.hid (HP2.out h3)
       obtain ⟨b5,o5,xa5,xk5,xs5,xb5,xm5,xd5,xb5',xm5',xd5',hae,hbo,hax⟩:=hrd.atm 0 (by simp)
       subst hae
       rw [show ([oppA a]:List AT)[0]=oppA a from rfl] at hbo hax
       obtain ⟨u0,u1,u2,u3,u4⟩:=hbo.c5
       rw [Nat.zero_mul,Nat.add_zero] at u0 u1 u2 u3 u4
       have HAX5:=Lib.hid hax
       clear hbo hax hrd H3 H4 HP2
       generalize oppA a=oa at*
       go_wp2_with fail
       refine bodyPost_ret (v:=.tuple #[.agg #[.slice xa5 oa.1.1.length xk5,.bool xs5,.slice xb5 xm5 xd5,.slice xb5' xm5' xd5',.int .i64 oa.2],.bool true]) (by simp [results,Tryz.results38,go_sem,j0,j1,j2,j3,j4]) rfl ?_
       exact hR.out _ _ (Gives.mk (putL_below (by omega) [_,_,_,_,_] 0 (Ext.trans B1.out X3.out)) ⟨_,_,oa,rfl,⟨_,_,_,_,rfl,HAX5.out.putT (R2.out.ext X3.out) (by decide) (by decide) 0 [_,_,_,_,_]⟩,fun _=>HOK.out⟩)
end Go.Proofs.YtdooldpgnjmpfaaGreatDoor

namespace Go.Att
open Go.RowKit

def MapZ (P:Program) (k:TypeId) (m n:Nat) (w:World):Prop:=
 ∃ es clock,w.heap[m]?=some (.map es clock)∧∀ e∈es.toList,(∃ l,keyOf P k e.key=some l)∧∃ z:Int,e.val=.int .i64 z∧0≤z∧z < n
section
variable {P:Program} {k e t:TypeId} {m n:Nat} {w w':World} {key:Value} {kl:Lit}
theorem MapZ.lt (h:MapZ P k m n w):m < w.heap.size:=by
 obtain ⟨es,clock,hb,_⟩:=h
 exact (Array.getElem?_eq_some_iff.1 hb).1
theorem MapZ.mono (h:MapZ P k m n w) {n':Nat} (hn:n≤n'):MapZ P k m n' w:=by
 obtain ⟨es,clock,hb,hF⟩:=h
 exact ⟨es,clock,hb,fun x hx=>⟨(hF x hx).1,by obtain ⟨z,h1,h2,h3⟩:=(hF x hx).2;exact ⟨z,h1,h2,by omega⟩⟩⟩
theorem MapZ.block (h:MapZ P k m n w) (hb:w'.heap[m]?=w.heap[m]?):MapZ P k m n w':=by
 obtain ⟨es,clock,h1,hF⟩:=h
 exact ⟨es,clock,hb.trans h1,hF⟩
theorem MapZ.ext (h:MapZ P k m n w) (x:Ext w w'):MapZ P k m n w':=h.block (x.block m h.lt)
theorem MapZ.made (w:World):MapZ P k w.heap.size 0 (w.alloc (.map #[] 0)):=⟨#[],0,(MapKept.heap_alloc w _).1,fun x hx=>by simp at hx⟩
theorem MapZ.look (h:MapZ P k m n w) (K:WideMaps.KeyLaw P k) (ht:P.underlying t=some (.map k e)) (hz:(zeroValue e).run P w=.ok (.int .i64 0) w) (hkey:keyOf P k key=some kl):
  ∃ (z:Int) (b:Bool),(Instr.lookup t (.map (some m)) key true).run P w=.ok (.tuple #[.int .i64 z,.bool b]) w∧(b=true→0≤z∧z < n):=by
 obtain ⟨es,clock,hb,hF⟩:=h
 rcases K.find w hkey es.toList (fun x hx=>(hF x hx).1) with ⟨h1,h2⟩ | ⟨j,e0,h1,h2,h3⟩
 ·exact ⟨0,false,by simp [Instr.lookup,run_underlying ht,MapKept.run_getObj_map hb,K.check w _ hkey,h1,hz,Result.andThen],fun h=>by cases h⟩
 ·obtain ⟨z,hv,g1,g2⟩:=(hF e0 (List.mem_of_getElem? h2)).2
  exact ⟨z,true,by simp [Instr.lookup,run_underlying ht,MapKept.run_getObj_map hb,K.check w _ hkey,h1,hv,Result.andThen],fun _=>⟨g1,g2⟩⟩
theorem MapZ.store (h:MapZ P k m n w) (K:WideMaps.KeyLaw P k) (ht:P.underlying t=some (.map k e)) (hkey:keyOf P k key=some kl) {z:Int} (h0:0≤z) (h1:z < n):
  ∃ w',(Instr.mapUpdate t (.map (some m)) key (.int .i64 z)).run P w=.ok () w'∧MapZ P k m n w'∧w.grownBy w' (some m):=by
 obtain ⟨es,clock,hb,hF⟩:=h
 have hown:∀ o,w.grownBy (ChangeMaps.setBlock w m o) (some m):=fun o=>⟨rfl,rfl,rfl,by simp [ChangeMaps.setBlock],fun i _ hi=>ChangeMaps.heap_setBlock_other hb _ (fun e=>hi (by rw [e]))⟩
 rcases K.find w hkey es.toList (fun x hx=>(hF x hx).1) with ⟨g1,g2⟩ | ⟨j,e0,g1,g2,g3⟩
 ·refine ⟨ChangeMaps.setBlock w m (.map (es.push ⟨key,.int .i64 z,clock⟩) (clock+1)),?_,⟨_,_,ChangeMaps.heap_setBlock_same hb _,fun x hx=>?_⟩,hown _⟩
  ·simp [Instr.mapUpdate,run_underlying ht,MapKept.run_getObj_map hb,K.check w false hkey,g1,MapKept.run_setObj_map _ hb,Result.andThen,ChangeMaps.setBlock]
  ·simp only [Array.toList_push,List.mem_append,List.mem_singleton] at hx
   rcases hx with hx | rfl
   ·exact hF x hx
   ·exact ⟨⟨_,hkey⟩,z,rfl,h0,h1⟩
 ·have hj:es[j]?=some e0:=by simpa using g2
  refine ⟨ChangeMaps.setBlock w m (.map (es.modify j (fun e'=>{ e' with key:=key,val:=.int .i64 z })) clock),?_,⟨_,_,ChangeMaps.heap_setBlock_same hb _,fun x hx=>?_⟩,hown _⟩
  ·simp [Instr.mapUpdate,run_underlying ht,MapKept.run_getObj_map hb,K.check w false hkey,g1,hj,g3,K.stays w hkey,MapKept.run_setObj_map _ hb,Result.andThen,ChangeMaps.setBlock]
  ·rw [Array.toList_modify] at hx
   obtain ⟨i,hi,ex⟩:=List.getElem_of_mem hx
   rw [List.getElem_modify] at ex
   split at ex
   ·subst ex
    exact ⟨⟨_,hkey⟩,z,rfl,h0,h1⟩
   ·subst ex
    exact hF _ (List.getElem_mem _)
variable {ops:Array Oper} {rest:List Oper}
end
open Go.RowKit
theorem key5 {P:Program} {k q i b s:TypeId} {f0 f1 f2 g0 g1 g2:Field} (hu:P.underlying k=some (.struct #[f0,f1,f2])) (hq:P.underlying q=some (.struct #[g0,g1,g2])) (hi:P.underlying i=some (.int .i64)) (hb:P.underlying b=some .bool) (hs:P.underlying s=some .string)
  (hf : f0.type = i ∧ f1.type = q ∧ f2.type = s ∧ f0.offset = 0 ∧ f1.offset = 1 ∧ f2.offset = 4 ∧ (#[f0, f1, f2].all (·.name != "_")) = true) (hg : g0.type = b ∧ g1.type = s ∧ g2.type = s ∧ g0.offset = 0 ∧ g1.offset = 1 ∧ g2.offset = 2 ∧ (#[g0, g1, g2].all (·.name != "_")) = true)
  (hc:P.cellsOf k=5) (hcq:P.cellsOf q=3) (hci:P.cellsOf i=1) (hcb:P.cellsOf b=1) (hcs:P.cellsOf s=1) (hkt:P.keyType k=true) (hs2:2≤P.types.size) {z:Int} {t:Bool} {x y u:ByteArray} (hz:(Lit.int .i64 z).wf=true) (hx:x.size≤maxLen) (hy:y.size≤maxLen) (hw:u.size≤maxLen):
  ∃ l,keyOf P k (.agg #[.int .i64 z,.bool t,.string x,.string y,.string u])=some l:=by
 obtain ⟨h0,h1,h2,o0,o1,o2,hn⟩:=hf
 obtain ⟨e0,e1,e2,p0,p1,p2,hm⟩:=hg
 obtain ⟨d,hd⟩:∃ d,P.types.size=d+2:=⟨P.types.size - 2,by omega⟩
 refine ⟨.string (keyBytes [.int .i64 z,.bool t,.string x.data.toList,.string y.data.toList,.string u.data.toList]),?_⟩
 have hK:P.keyLits (d+2) q [.bool t,.string x,.string y]=some [.bool t,.string x.data.toList,.string y.data.toList]:=by
  unfold Program.keyLits
  rw [hq]
  simp only [hm,hcq]
  unfold Program.keyLits
  simp [e0,e1,e2,p0,p1,p2,hcb,hcs,hb,hs,hx,hy,List.mapM_cons]
 unfold keyOf
 rw [hu]
 simp only [hkt,Value.formed,hu,hc,Bool.true_and]
 rw [hd]
 unfold Program.keyLits
 rw [hu]
 simp only [Value.cells,hn,hc]
 have hI:P.keyLits (d+2) i [.int .i64 z]=some [.int .i64 z]:=by
  unfold Program.keyLits
  rw [hi]
  simp [hz]
 have hS:P.keyLits (d+2) s [.string u]=some [.string u.data.toList]:=by
  unfold Program.keyLits
  rw [hs]
  simp [hw]
 simp [h0,h1,h2,o0,o1,o2,hci,hcq,hcs,hI,hK,hS,List.mapM_cons]
open Go.RowKit

def IsFst (ks:List Value) (v:Value) (z:Int):Prop:=∃ i:Nat,z=(i:Int)∧ks[i]?=some v∧∀ j,j < i→ks[j]?≠some v
theorem IsFst.snoc {ks:List Value} {u v:Value} {z:Int} (h:IsFst ks v z):IsFst (ks ++ [u]) v z:=by
 obtain ⟨i,rfl,h1,h2⟩:=h
 have hi:i < ks.length:=(List.getElem?_eq_some_iff.1 h1).1
 exact ⟨i,rfl,by rw [List.getElem?_append_left hi];exact h1,fun j hj=>by rw [List.getElem?_append_left (by omega)];exact h2 j hj⟩
theorem IsFst.new {ks:List Value} {v:Value} (h:v ∉ ks):IsFst (ks ++ [v]) v ks.length:=
 ⟨ks.length,rfl,by simp,fun j hj hc=>h (by rw [List.getElem?_append_left hj] at hc;exact List.mem_of_getElem? hc)⟩
theorem IsFst.uniq {ks:List Value} {v:Value} {z z':Int} (h:IsFst ks v z) (h':IsFst ks v z'):z=z':=by
 obtain ⟨i,rfl,h1,h2⟩:=h
 obtain ⟨j,rfl,h3,h4⟩:=h'
 rcases Nat.lt_trichotomy i j with h | h | h
 ·exact absurd h1 (h4 i h)
 ·rw [h]
 ·exact absurd h3 (h2 j h)
def MapF (P:Program) (k:TypeId) (m:Nat) (ks:List Value) (w:World):Prop:=
 ∃ es clock,w.heap[m]?=some (.map es clock)∧(∀ e∈es.toList,(∃ l,keyOf P k e.key=some l)∧∃ z:Int,e.val=.int .i64 z∧IsFst ks e.key z)∧∀ v∈ks,∃ e∈es.toList,e.key=v
section
variable {P:Program} {k e t:TypeId} {m:Nat} {ks:List Value} {w w':World} {key:Value} {kl:Lit}
theorem MapF.lt (h:MapF P k m ks w):m < w.heap.size:=by
 obtain ⟨es,clock,hb,_⟩:=h
 exact (Array.getElem?_eq_some_iff.1 hb).1
theorem MapF.block (h:MapF P k m ks w) (hb:w'.heap[m]?=w.heap[m]?):MapF P k m ks w':=by
 obtain ⟨es,clock,h1,hF⟩:=h
 exact ⟨es,clock,hb.trans h1,hF⟩
theorem MapF.ext (h:MapF P k m ks w) (x:Ext w w'):MapF P k m ks w':=h.block (x.block m h.lt)
theorem MapF.made (w:World):MapF P k w.heap.size [] (w.alloc (.map #[] 0)):=⟨#[],0,(MapKept.heap_alloc w _).1,fun x hx=>by simp at hx,fun v hv=>by cases hv⟩
theorem MapF.old (h:MapF P k m ks w) {v:Value} (hv:v∈ks):MapF P k m (ks ++ [v]) w:=by
 obtain ⟨es,clock,h1,h2,h3⟩:=h
 refine ⟨es,clock,h1,fun x hx=>⟨(h2 x hx).1,?_⟩,fun u hu=>?_⟩
 ·obtain ⟨z,hz,hf⟩:=(h2 x hx).2
  exact ⟨z,hz,hf.snoc⟩
 ·rcases List.mem_append.1 hu with hu | hu
  ·exact h3 u hu
  ·rw [List.mem_singleton.1 hu];exact h3 v hv
theorem MapF.look (h:MapF P k m ks w) (K:WideMaps.KeyLaw P k) (ht:P.underlying t=some (.map k e)) (hz:(zeroValue e).run P w=.ok (.int .i64 0) w) (hkey:keyOf P k key=some kl):
  ∃ (z:Int) (b:Bool),(Instr.lookup t (.map (some m)) key true).run P w=.ok (.tuple #[.int .i64 z,.bool b]) w∧(b=true→key∈ks∧IsFst ks key z)∧(b=false→key ∉ ks):=by
 obtain ⟨es,clock,hb,hF,hI⟩:=h
 rcases K.find w hkey es.toList (fun x hx=>(hF x hx).1) with ⟨h1,h2⟩ | ⟨j,e0,h1,h2,h3⟩
 ·exact ⟨0,false,by simp [Instr.lookup,run_underlying ht,MapKept.run_getObj_map hb,K.check w _ hkey,h1,hz,Result.andThen],(fun h=>by cases h),fun _ hc=>by
   obtain ⟨x,hx,he⟩:=hI _ hc
   exact h2 x hx he⟩
 ·obtain ⟨z,hv,g1⟩:=(hF e0 (List.mem_of_getElem? h2)).2
  rw [h3] at g1
  refine ⟨z,true,by simp [Instr.lookup,run_underlying ht,MapKept.run_getObj_map hb,K.check w _ hkey,h1,hv,Result.andThen],fun _=>⟨?_,g1⟩,(fun h=>by cases h)⟩
  obtain ⟨i,-,h4,-⟩:=g1
  exact List.mem_of_getElem? h4
theorem MapF.look1 (h:MapF P k m ks w) (K:WideMaps.KeyLaw P k) (ht:P.underlying t=some (.map k e)) (hkey:keyOf P k key=some kl) (hin:key∈ks):
  ∃ z:Int,(Instr.lookup t (.map (some m)) key false).run P w=.ok (.int .i64 z) w∧IsFst ks key z:=by
 obtain ⟨es,clock,hb,hF,hI⟩:=h
 rcases K.find w hkey es.toList (fun x hx=>(hF x hx).1) with ⟨h1,h2⟩ | ⟨j,e0,h1,h2,h3⟩
 ·obtain ⟨x,hx,he⟩:=hI _ hin
  exact absurd he (h2 x hx)
 ·obtain ⟨z,hv,g1⟩:=(hF e0 (List.mem_of_getElem? h2)).2
  rw [h3] at g1
  exact ⟨z,by simp [Instr.lookup,run_underlying ht,MapKept.run_getObj_map hb,K.check w _ hkey,h1,hv,Result.andThen],g1⟩
theorem MapF.store (h:MapF P k m ks w) (K:WideMaps.KeyLaw P k) (ht:P.underlying t=some (.map k e)) (hkey:keyOf P k key=some kl) (hin:key ∉ ks):
  ∃ w',(Instr.mapUpdate t (.map (some m)) key (.int .i64 ks.length)).run P w=.ok () w'∧MapF P k m (ks ++ [key]) w'∧w.grownBy w' (some m):=by
 obtain ⟨es,clock,hb,hF,hI⟩:=h
 have hown:∀ o,w.grownBy (ChangeMaps.setBlock w m o) (some m):=fun o=>⟨rfl,rfl,rfl,by simp [ChangeMaps.setBlock],fun i _ hi=>ChangeMaps.heap_setBlock_other hb _ (fun e=>hi (by rw [e]))⟩
 rcases K.find w hkey es.toList (fun x hx=>(hF x hx).1) with ⟨g1,g2⟩ | ⟨j,e0,g1,g2,g3⟩
 ·refine ⟨ChangeMaps.setBlock w m (.map (es.push ⟨key,.int .i64 ks.length,clock⟩) (clock+1)),?_,⟨_,_,ChangeMaps.heap_setBlock_same hb _,fun x hx=>?_,fun v hv=>?_⟩,hown _⟩
  ·simp [Instr.mapUpdate,run_underlying ht,MapKept.run_getObj_map hb,K.check w false hkey,g1,MapKept.run_setObj_map _ hb,Result.andThen,ChangeMaps.setBlock]
  ·simp only [Array.toList_push,List.mem_append,List.mem_singleton] at hx
   rcases hx with hx | rfl
   ·obtain ⟨z,hz,hf⟩:=(hF x hx).2
    exact ⟨(hF x hx).1,z,hz,hf.snoc⟩
   ·exact ⟨⟨_,hkey⟩,_,rfl,IsFst.new hin⟩
  ·simp only [Array.toList_push,List.mem_append,List.mem_singleton]
   rcases List.mem_append.1 hv with hv | hv
   ·obtain ⟨x,hx,he⟩:=hI _ hv
    exact ⟨x,.inl hx,he⟩
   ·rw [List.mem_singleton.1 hv]
    exact ⟨_,.inr rfl,rfl⟩
 ·obtain ⟨z,-,i,-,h4,-⟩:=(hF e0 (List.mem_of_getElem? g2)).2
  rw [g3] at h4
  exact absurd (List.mem_of_getElem? h4) hin
theorem wpList_makeF {ops:Array Oper} {rest:List Oper} {o:Oper} {a:Act} {Q:Exit→Act→World→Prop} (hg:o.guard=none) (t:TypeId) (hop:o.op=Op.makeMap t none) (hK:wpList P ops Q rest (a.put o.dst (.map (some w.heap.size))) (w.alloc (.map #[] 0))):wpList P ops Q (o :: rest) a w:=
 wpList_plain hg fun _ hK'=>by
  unfold Oper.wp
  simp [execOp,hop,run_makeMap,Result.andThen]
  exact hK' _ _ hK
theorem wp_lookupF {o:Oper} {a:Act} {K:Act→World→Prop} {Q:Exit→Act→World→Prop} (mm x:Operand) (t:TypeId) (hop:o.op=Op.lookup t mm x true) (L:WideMaps.KeyLaw P k) (ht:P.underlying t=some (.map k e)) (hz:(zeroValue e).run P w=.ok (.int .i64 0) w)
  (hm:a.eval mm=.map (some m)) (h:MapF P k m ks w) (hx:a.eval x=key) (hkey:keyOf P k key=some kl) (hK:∀ (z:Int) (b:Bool),(b=true→key∈ks∧IsFst ks key z)→(b=false→key ∉ ks)→K (a.put o.dst (.tuple #[.int .i64 z,.bool b])) w):o.wp P a w K Q:=by
 obtain ⟨z,b,hrun,hb,hb'⟩:=h.look L ht hz hkey
 unfold Oper.wp
 simp [execOp,hop,hm,hx,hrun,Result.andThen]
 exact hK z b hb hb'
theorem wp_lookup1F {o:Oper} {a:Act} {K:Act→World→Prop} {Q:Exit→Act→World→Prop} (mm x:Operand) (t:TypeId) (hop:o.op=Op.lookup t mm x false) (L:WideMaps.KeyLaw P k) (ht:P.underlying t=some (.map k e))
  (hm:a.eval mm=.map (some m)) (h:MapF P k m ks w) (hx:a.eval x=key) (hkey:keyOf P k key=some kl) (hin:key∈ks) (hK:∀ (z:Int),IsFst ks key z→K (a.put o.dst (.int .i64 z)) w):o.wp P a w K Q:=by
 obtain ⟨z,hrun,hb⟩:=h.look1 L ht hkey hin
 unfold Oper.wp
 simp [execOp,hop,hm,hx,hrun,Result.andThen]
 exact hK z hb
theorem wp_storeF {o:Oper} {a:Act} {K:Act→World→Prop} {Q:Exit→Act→World→Prop} (mm x v:Operand) (t:TypeId) (hop:o.op=Op.mapUpdate t mm x v) (L:WideMaps.KeyLaw P k) (ht:P.underlying t=some (.map k e))
  (hm:a.eval mm=.map (some m)) (h:MapF P k m ks w) (hx:a.eval x=key) (hkey:keyOf P k key=some kl) (hv:a.eval v=.int .i64 ks.length) (hin:key ∉ ks) (hK:∀ w',MapF P k m (ks ++ [key]) w'→w.grownBy w' (some m)→K (a.put o.dst undef) w'):o.wp P a w K Q:=by
 obtain ⟨w',hrun,g1,g2⟩:=h.store L ht hkey hin
 unfold Oper.wp
 simp [execOp,hop,hm,hx,hv,hrun,Result.andThen]
 exact hK w' g1 g2
variable {ops:Array Oper} {rest:List Oper}
theorem wpList_lookupF {o:Oper} {a:Act} {Q:Exit→Act→World→Prop} (hg:o.guard=none) (mm x:Operand) (t:TypeId) (hop:o.op=Op.lookup t mm x true) (L:WideMaps.KeyLaw P k) (ht:P.underlying t=some (.map k e)) (hz:(zeroValue e).run P w=.ok (.int .i64 0) w)
  (hm:a.eval mm=.map (some m)) (h:MapF P k m ks w) (hx:a.eval x=key) (hkey:keyOf P k key=some kl) (hK:∀ (z:Int) (b:Bool),(b=true→key∈ks∧IsFst ks key z)→(b=false→key ∉ ks)→wpList P ops Q rest (a.put o.dst (.tuple #[.int .i64 z,.bool b])) w):wpList P ops Q (o :: rest) a w:=
 wpList_plain hg fun _ hK'=>wp_lookupF mm x t hop L ht hz hm h hx hkey fun z b hb hb'=>hK' _ _ (hK z b hb hb')
theorem wpList_lookup1F {o:Oper} {a:Act} {Q:Exit→Act→World→Prop} (hg:o.guard=none) (mm x:Operand) (t:TypeId) (hop:o.op=Op.lookup t mm x false) (L:WideMaps.KeyLaw P k) (ht:P.underlying t=some (.map k e))
  (hm:a.eval mm=.map (some m)) (h:MapF P k m ks w) (hx:a.eval x=key) (hkey:keyOf P k key=some kl) (hin:key∈ks) (hK:∀ (z:Int),IsFst ks key z→wpList P ops Q rest (a.put o.dst (.int .i64 z)) w):wpList P ops Q (o :: rest) a w:=
 wpList_plain hg fun _ hK'=>wp_lookup1F mm x t hop L ht hm h hx hkey hin fun z hb=>hK' _ _ (hK z hb)
theorem wpList_storeF {o:Oper} {a:Act} {Q:Exit→Act→World→Prop} (hg:o.guard=none) (mm x v:Operand) (t:TypeId) (hop:o.op=Op.mapUpdate t mm x v) (L:WideMaps.KeyLaw P k) (ht:P.underlying t=some (.map k e))
  (hm:a.eval mm=.map (some m)) (h:MapF P k m ks w) (hx:a.eval x=key) (hkey:keyOf P k key=some kl) (hv:a.eval v=.int .i64 ks.length) (hin:key ∉ ks) (hK:∀ w',MapF P k m (ks ++ [key]) w'→w.grownBy w' (some m)→wpList P ops Q rest (a.put o.dst undef) w'):wpList P ops Q (o :: rest) a w:=
 wpList_plain hg fun _ hK'=>wp_storeF mm x v t hop L ht hm h hx hkey hv hin fun w' g1 g2=>hK' _ _ (hK w' g1 g2)
end
end Go.Att

namespace Go.Proofs.YtdooldpgnjmpfaaGreatDoor
open Go.RowKit Go.Att

theorem dens_nil {d:Nat}:(dens d).length=0↔d=1∨d=0:=by
 unfold dens
 by_cases h:d=1
 ·simp [h]
 ·rw [if_neg h]
  have:=limbs_len_pos (x:=d)
  omega
theorem whole_any {w:World} {v:Value} {q:Rat} (hq:RdQ w v q):
  Calls Tryz.prog 131 #[v] w (Gives w fun v' _=>v'=.bool (decide (q.den=1))):=by
 refine via fun R hR=>?_
 obtain ⟨n,d,rfl,hn,hd⟩:=hq
 obtain ⟨a,c,rfl,-,-,-,-⟩:=hd.1.shape
 clear hn hd
 have hz:=dens_nil (d:=q.den)
 have hp:=q.den_nz
 by_cases h:q.den=1
 ·rw [decide_eq_true h] at hR
  have hl:(((dens q.den).length:Int) == 0)=true:=beqT (by omega)
  clear h hz hp
  go_enter Tryz.func131,Tryz.ntmps131
  go_wp2_with fail
  exact hR.out _ _ (Gives.mk (Ext.alloc _ _) rfl)
 ·rw [decide_eq_false h] at hR
  have hl:(((dens q.den).length:Int) == 0)=false:=beqF (by omega)
  clear h hz hp
  go_enter Tryz.func131,Tryz.ntmps131
  go_wp2_with fail
  exact hR.out _ _ (Gives.mk (Ext.alloc _ _) rfl)
open Go.RowKit Go.Att

@[irreducible] def strOf (xs:List Nat):ByteArray:=⟨(xs.map UInt8.ofNat).toArray⟩
theorem strOf_size (xs:List Nat):(strOf xs).size=xs.length:=by unfold strOf;show (List.toArray _).size=_;simp
theorem strOf_at {xs:List Nat} (hx:Fit 256 xs) {i:Nat} (h:i < (strOf xs).size):((strOf xs)[i]'h).toNat=nth xs i:=by
 have hi:i < xs.length:=by rw [strOf_size] at h;exact h
 have e:(strOf xs)[i]'h=UInt8.ofNat xs[i]:=by
  unfold strOf
  have h':i < ((xs.map UInt8.ofNat).toArray).size:=by simpa using hi
  exact (show (⟨(xs.map UInt8.ofNat).toArray⟩:ByteArray)[i]'_=((xs.map UInt8.ofNat).toArray)[i]'h' from rfl).trans (by simp)
 rw [e,nth_lt xs i hi]
 have:=hx _ (List.getElem_mem hi)
 simp
 omega

theorem conv_bytes {P:Program} {w:World} {src dst e:TypeId} {v:Value} {xs:List Nat} (hs:P.underlying src=some (.slice e)) (he:P.underlying e=some (.int .u8)) (hd:P.underlying dst=some .string)
  (h:RdI .u8 w v xs) (hf:Fit 256 xs):(convert src dst v).run P w=.ok (.string (strOf xs)) w:=by
 obtain ⟨h0,a,cap,rfl,h1,h2,h3,h5⟩:=h
 unfold strOf
 cases a with
 | none=>
  have hc:=h3 rfl
  have hx:xs=[]:=List.eq_nil_of_length_eq_zero (by omega)
  subst hx
  rw [run_convert_bytes_string w src dst e none _ cap hs he hd]
  unfold Conv.bytesToString
  simp [go_sem]
  rfl
 | some a=>
  have:=run_convert_bytes_back w src dst e a cap (xs.map UInt8.ofNat) hs he hd (fun j hj=>by
   have hj':j < xs.length:=by simpa using hj
   obtain ⟨b,off,ha,hc⟩:=h5 j (by rw [len_ints];exact hj')
   obtain rfl:a=⟨b,off,none⟩:=by simpa using ha
   have e1:((xs.map UInt8.ofNat)[j]'hj).toNat=nth xs j:=by
    have:=hf _ (List.getElem_mem hj')
    simp [nth_lt xs j hj']
    omega
   rw [e1,← at_ints .u8 xs j hj',← hc]
   unfold Addr.add
   split
   ·rename_i h;subst h;rfl
   ·rfl)
  simpa using this
end Go.Proofs.YtdooldpgnjmpfaaGreatDoor

namespace Go.Att

def Digs (bs:List Nat):Prop:=∀ x∈bs,48≤x∧x≤57
theorem Digs.snoc {bs:List Nat} {x:Nat} (h:Digs bs) (hx:48≤x∧x≤57):Digs (bs ++ [x]):=fun y hy=>by
 rcases List.mem_append.1 hy with hy | hy
 ·exact h y hy
 ·simp at hy;omega
theorem Digs.app {bs cs:List Nat} (h:Digs bs) (k:Digs cs):Digs (bs ++ cs):=fun y hy=>by
 rcases List.mem_append.1 hy with hy | hy
 ·exact h y hy
 ·exact k y hy
def be:Nat→Nat→List Nat
 | 0,_=>[]
 | k+1,n=>be k (n / 10) ++ [n % 10+48]
theorem be_len (k n:Nat):(be k n).length=k:=by
 induction k generalizing n with
 | zero=>rfl
 | succ k ih=>simp [be,ih]
theorem be_digs (k n:Nat):Digs (be k n):=by
 induction k generalizing n with
 | zero=>intro x hx;simp [be] at hx
 | succ k ih=>exact (ih _).snoc (by have:=Nat.mod_lt n (show 0 < 10 by decide);omega)
theorem be_zero (k:Nat):be k 0=List.replicate k 48:=by
 induction k with
 | zero=>rfl
 | succ k ih=>rw [be,Nat.zero_div,ih];simp [List.replicate_succ']
theorem be_app (k j n:Nat):be (k+j) n=be k (n / 10 ^ j) ++ be j n:=by
 induction j generalizing n with
 | zero=>simp [be]
 | succ j ih=>rw [← Nat.add_assoc,be,ih,be,← List.append_assoc,Nat.div_div_eq_div_mul,Nat.pow_succ,Nat.mul_comm 10]
theorem be_mod (k n:Nat):be k (n % 10 ^ k)=be k n:=by
 induction k generalizing n with
 | zero=>rfl
 | succ k ih=>
  have e1:n % 10 ^ (k+1) % 10=n % 10:=Nat.mod_mod_of_dvd n ⟨10 ^ k,by rw [Nat.pow_succ,Nat.mul_comm]⟩
  have e2:n % 10 ^ (k+1) / 10=n / 10 % 10 ^ k:=by rw [Nat.pow_succ,Nat.mul_comm,Nat.mod_mul_right_div_self]
  rw [be,e1,e2,ih,be]

def dtext (n:Nat):List Nat:=if n < 10 then [n+48] else dtext (n / 10) ++ [n % 10+48]
termination_by n
theorem dtext_small {n:Nat} (h:n < 10):dtext n=[n+48]:=by rw [dtext,if_pos h]
theorem dtext_step {n:Nat} (h:¬ n < 10):dtext n=dtext (n / 10) ++ [n % 10+48]:=by rw [dtext,if_neg h]
theorem dtext_digs (n:Nat):Digs (dtext n):=by
 induction n using Nat.strongRecOn with
 | _ n ih=>
  by_cases h:n < 10
  ·rw [dtext_small h];intro x hx;simp at hx;omega
  ·rw [dtext_step h];exact (ih _ (by omega)).snoc (by omega)
theorem dtext_pos (n:Nat):0 < (dtext n).length:=by
 by_cases h:n < 10
 ·rw [dtext_small h];simp
 ·rw [dtext_step h];simp
def trim0 (bs:List Nat):List Nat:=bs.dropWhile (· == 48)
theorem dtext_head {n:Nat} (hn:n≠0):∃ x l,dtext n=x :: l∧x≠48:=by
 induction n using Nat.strongRecOn with
 | _ n ih=>
  by_cases h:n < 10
  ·rw [dtext_small h];exact ⟨_,_,rfl,by omega⟩
  ·obtain ⟨x,l,e,hx⟩:=ih (n / 10) (by omega) (by omega)
   rw [dtext_step h,e]
   exact ⟨x,l ++ [n % 10+48],rfl,hx⟩
theorem trim0_zeros (k:Nat) (bs:List Nat):trim0 (List.replicate k 48 ++ bs)=trim0 bs:=by
 induction k with
 | zero=>simp
 | succ k ih=>rw [List.replicate_succ,List.cons_append];unfold trim0 at ih ⊢;rw [List.dropWhile_cons];simp [ih]
theorem trim0_text {n:Nat} (hn:n≠0):trim0 (dtext n)=dtext n:=by
 obtain ⟨x,l,e,hx⟩:=dtext_head hn
 rw [e]
 unfold trim0
 rw [List.dropWhile_cons]
 simp [hx]
theorem be_text {k n:Nat} (hn:n≠0) (hk:n < 10 ^ k):be k n=List.replicate (k - (dtext n).length) 48 ++ dtext n∧(dtext n).length≤k:=by
 induction k generalizing n with
 | zero=>simp at hk;omega
 | succ k ih=>
  by_cases h:n < 10
  ·rw [be,show n / 10=0 by omega,be_zero,dtext_small h,Nat.mod_eq_of_lt h]
   simp
  ·have h1:n / 10 < 10 ^ k:=by rw [Nat.pow_succ] at hk;omega
   obtain ⟨e,hl⟩:=ih (by omega) h1
   rw [be,dtext_step h,e,List.append_assoc]
   simp
   omega
theorem trim_be {k n:Nat} (hn:n≠0) (hk:n < 10 ^ k):trim0 (be k n)=dtext n:=by rw [(be_text hn hk).1,trim0_zeros,trim0_text hn]

def beGroups:List Nat→List Nat
 | []=>[]
 | g :: gs=>beGroups gs ++ be 9 g
theorem beGroups_eq (n:Nat):beGroups (digs 1000000000 n)=be (9*(digs 1000000000 n).length) n:=by
 induction n using Nat.strongRecOn with
 | _ n ih=>
  by_cases h:n=0
  ·subst h;rw [digs_zero];rfl
  ·rw [digs_pos _ (by decide) n h,beGroups,ih _ (by omega),List.length_cons,show 9*((digs 1000000000 (n / 1000000000)).length+1)=9*(digs 1000000000 (n / 1000000000)).length+9 by omega,be_app]
   congr 1
   exact be_mod 9 n
theorem trim_groups {n:Nat} (hn:n≠0):trim0 (beGroups (digs 1000000000 n))=dtext n:=by
 rw [beGroups_eq]
 refine trim_be hn ?_
 have:=(digs_len 1000000000 (by decide) n (digs 1000000000 n).length).1 (Nat.le_refl _)
 rw [Nat.pow_mul]
 exact this
theorem dtext_len_le {n k:Nat} (hk:n < 10 ^ k) (h0:0 < k):(dtext n).length≤k:=by
 by_cases hn:n=0
 ·subst hn;rw [dtext_small (by decide)];simp;omega
 ·exact (be_text hn hk).2
end Go.Att
