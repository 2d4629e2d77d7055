/- A group of texts: PTabRoom, PTabHelper, PTabBroken, PSimplexCheck -/
import Derived.Test.YthpaifdfafjlcaaGreatSq
import Derived.Test.YthpaifdfafjlcaaGreatTabAll
import Derived.Test.YthpaifdfafjlcaaGreatR8All
import Derived.Test.YthpaifdfafjlcaaGreatSxC
import Derived.Test.YthpaifdfafjlcaaGreatAtomAll
namespace Go.Proofs.YthpaifdfafjlcaaGreat
open Go.RowKit Go.Att Go.Sx

set_option linter.unusedSimpArgs false in
set_option maxHeartbeats 4000000 in
set_option maxRecDepth 100000 in
theorem room_any {w:World} {bt n0:Nat} {L:List AT} {A:Nat→Nat→Rat} {va vb:Nat→Rat} {bas:Nat→Nat} {row:Nat→Int} {al ab ar aa av ah:Option Addr} {kl kb kr ka kv kh:Nat} (h:TabR w bt n0 L A va vb bas row al ab ar aa av ah kl kb kr ka kv kh)
  {v:Nat} (hv:v < n0+L.length) (hn:n0+L.length≤100000) (sv:Sz 100 (va v)∧Sz 100 (vb v)) (sh:n0≤v→v < n0+L.length→Sz 100 ((bnd n0 L).hA v)∧Sz 100 ((bnd n0 L).hB v)):
  Calls Tryz.prog 60 #[.pointer (some ⟨bt,0,none⟩),.int .i64 v] w (Gives w fun v' _=>v'=.tuple #[.bool (decide (v < n0) || (!(bnd n0 L).eq v || decide (0 < cmpD (va v) (vb v) ((bnd n0 L).hA v) ((bnd n0 L).hB v)))),.bool (decide (v < n0) || decide (cmpD (va v) (vb v) ((bnd n0 L).hA v) ((bnd n0 L).hB v) < 0))]):=by
 refine via fun R hR=>?_
 have C1:=Lib.hid h.bx
 by_cases hlt:v < n0
 ·have hd:decide ((v:Int) < (n0:Int))=true:=decide_eq_true (by omega)
  rw [decide_eq_true hlt,Bool.true_or,Bool.true_or] at hR
  clear h
  obtain ⟨k0,-,-,-,-,-,-⟩:=C1.out.c7
  go_enter Tryz.func60,Tryz.ntmps60
  go_wp2_with fail
  exact hR.out _ _ (Gives.mk (Ext.refl _) rfl)
 ·have hd:decide ((v:Int) < (n0:Int))=false:=decide_eq_false (by omega)
  rw [decide_eq_false hlt,Bool.false_or,Bool.false_or] at hR
  have hi:v - n0 < L.length:=by omega
  have sh:=sh (by omega) hv
  obtain ⟨bv,ov,sg,x,k,m,y,k',m',t,x2,k2,m2,y2,k2',m2',rfl,hbv,hov⟩:=h.val_at rfl hv
  obtain ⟨bh,oh,sg',z,j,n,z',j',n',t',z2,j2,n2,z2',j2',n2',rfl,hbh,hoh⟩:=h.hi_at hi
  obtain ⟨bl,ol,rfl,hbl⟩:=h.op_at hi
  rw [show n0+(v - n0)=v by omega] at hoh
  have C2:=Lib.hid hbv
  have C3:=Lib.hid hbh
  have C4:=Lib.hid hbl
  have HCM:Hid (∀ w',Ext w w'→Calls Tryz.prog 57 #[.agg #[.bool sg,.slice x k m,.slice y k' m',.bool t,.slice x2 k2 m2,.slice y2 k2' m2'],.agg #[.bool sg',.slice z j n,.slice z' j' n',.bool t',.slice z2 j2 n2,.slice z2' j2' n2']] w' (Gives w' fun v' _=>v'=.int .i64 (cmpD (va v) (vb v) ((bnd n0 L).hA v) ((bnd n0 L).hB v)))):=fun w' X=>
   dcmp_any (hov.ext X).rd (hoh.ext X).rd (sv.1.le (by decide)) (sv.2.le (by decide)) (sh.1.le (by decide)) (sh.2.le (by decide))
  have HEQ:Hid ((bnd n0 L).eq v=decide ((gt L (v - n0)).2=3)):=rfl
  have HS:Hid ((v:Int) - (n0:Int)=((v - n0:Nat):Int)):=by show _=_;omega
  have HV1:IntKind.i64.wrap ((v:Int) - (n0:Int))=((v - n0:Nat):Int):=by rw [IntKind.wrap_i64];omega
  have HV2:(0:Int)≤((v - n0:Nat):Int)∧((v - n0:Nat):Int) < (L.length:Int):=⟨by omega,by omega⟩
  have HV3:(0:Int)≤(v:Int)∧(v:Int) < ((n0+L.length:Nat):Int):=⟨by omega,by omega⟩
  rw [HEQ.out] at hR
  clear h hbv hov hbh hoh hbl sv sh HEQ HS
  generalize cmpD (va v) (vb v) ((bnd n0 L).hA v) ((bnd n0 L).hB v)=c at*
  generalize (gt L (v - n0)).2=op at*
  generalize v - n0=i at*
  generalize n0+L.length=N at*
  go_enter Tryz.func60,Tryz.ntmps60
  obtain ⟨k0,-,-,-,-,-,-⟩:=C1.out.c7
  go_upto_region 3 with (fail)
  have b1:=drew_ext w
  have XE:=b1
  refine wp_region_noPanic ?_
  refine wp_region_held_drew (S:=fun w'=>(w'.cell? ⟨bt,0,none⟩=some (.int .i64 n0)∧w'.cell? ⟨bt,1,none⟩=some (.slice (some ⟨bl,ol,none⟩) L.length kl)∧w'.cell? ⟨bt,2,none⟩=some (.slice ab L.length kb)∧w'.cell? ⟨bt,3,none⟩=some (.slice ar N kr)∧w'.cell? ⟨bt,4,none⟩=some (.slice aa L.length ka)∧w'.cell? ⟨bt,5,none⟩=some (.slice (some ⟨bv,ov,none⟩) N kv)∧w'.cell? ⟨bt,6,none⟩=some (.slice (some ⟨bh,oh,none⟩) L.length kh))∧(w'.cell? ⟨bv,ov+v*6,none⟩=some (.bool sg)∧w'.cell? ⟨bv,ov+v*6+1,none⟩=some (.slice x k m)∧w'.cell? ⟨bv,ov+v*6+2,none⟩=some (.slice y k' m')∧w'.cell? ⟨bv,ov+v*6+3,none⟩=some (.bool t)∧w'.cell? ⟨bv,ov+v*6+4,none⟩=some (.slice x2 k2 m2)∧w'.cell? ⟨bv,ov+v*6+5,none⟩=some (.slice y2 k2' m2'))∧(w'.cell? ⟨bh,oh+i*6,none⟩=some (.bool sg')∧w'.cell? ⟨bh,oh+i*6+1,none⟩=some (.slice z j n)∧w'.cell? ⟨bh,oh+i*6+2,none⟩=some (.slice z' j' n')∧w'.cell? ⟨bh,oh+i*6+3,none⟩=some (.bool t')∧w'.cell? ⟨bh,oh+i*6+4,none⟩=some (.slice z2 j2 n2)∧w'.cell? ⟨bh,oh+i*6+5,none⟩=some (.slice z2' j2' n2'))) (by kernel_rfl) (⟨(C1.out.ext XE).c7,(C2.out.ext XE).c6,(C3.out.ext XE).c6⟩) (fun hHeld=>?_)
  refine tkH 0 hHeld ?_
  simp only [jP,jA,jB,jC,jD,jE,jF]
  refine tkH 1 hHeld ?_
  simp only [jP,jA,jB,jC,jD,jE,jF]
  refine tkH 2 hHeld ?_
  simp only [jP,jA,jB,jC,jD,jE,jF]
  refine tkH 3 hHeld ?_
  simp only [jP,jA,jB,jC,jD,jE,jF]
  refine tkH 4 hHeld ?_
  simp only [jP,jA,jB,jC,jD,jE,jF]
  refine tkH 5 hHeld ?_
  simp only [jP,jA,jB,jC,jD,jE,jF]
  refine tkH 6 hHeld ?_
  simp only [jP,jA,jB,jC,jD,jE,jF]
  refine tkH 7 hHeld ?_
  simp only [jP,jA,jB,jC,jD,jE,jF]
  refine tkH 8 hHeld ?_
  simp only [jP,jA,jB,jC,jD,jE,jF]
  refine tkH 9 hHeld ?_
  simp only [jP,jA,jB,jC,jD,jE,jF]
  refine tkH 10 hHeld ?_
  simp only [jP,jA,jB,jC,jD,jE,jF]
  refine tkH 11 hHeld ?_
  simp only [jP,jA,jB,jC,jD,jE,jF]
  refine tkH 12 hHeld ?_
  simp only [jP,jA,jB,jC,jD,jE,jF]
  refine tkH 13 hHeld ?_
  simp only [jP,jA,jB,jC,jD,jE,jF]
  refine tkH 14 hHeld ?_
  simp only [jP,jA,jB,jC,jD,jE,jF]
  refine tkH 15 hHeld ?_
  simp only [jP,jA,jB,jC,jD,jE,jF]
  refine tkH 16 hHeld ?_
  simp only [jP,jA,jB,jC,jD,jE,jF]
  refine tkH 17 hHeld ?_
  simp only [jP,jA,jB,jC,jD,jE,jF]
  refine tkH 18 hHeld ?_
  simp only [jP,jA,jB,jC,jD,jE,jF]
  refine rdH 19 (by kernel_rfl) rfl (fun K hK=>?_)
  go_simp
  go_at_call 57;refine (HCM.out _ XE).mono ?_;rintro e w2 ⟨_,rfl,b2,rfl⟩;(first | have XE:=Ext.trans XE b2 | have XE:=Ext.trans (Ext.trans XE (Ext.alloc _ _)) b2)
  go_wp2_with fail
  refine hK.out _ _ (⟨(C1.out.ext XE).c7,(C2.out.ext XE).c6,(C3.out.ext XE).c6⟩) (fun hHeld=>?_)
  clear hK K
  try simp only [jP,jA,jB,jC,jD,jE,jF]
  refine tkH 20 hHeld ?_
  simp only [jP,jA,jB,jC,jD,jE,jF]
  refine wpAnyH_done (by kernel_rfl) ?_ _
  refine NoPanic.normal ?_
  go_wp2_with fail
  have b3:=drew_ext w2
  have XE:=b3
  refine wp_region_noPanic ?_
  refine wp_region_held_drew (S:=fun w'=>(w'.cell? ⟨bt,0,none⟩=some (.int .i64 n0)∧w'.cell? ⟨bt,1,none⟩=some (.slice (some ⟨bl,ol,none⟩) L.length kl)∧w'.cell? ⟨bt,2,none⟩=some (.slice ab L.length kb)∧w'.cell? ⟨bt,3,none⟩=some (.slice ar N kr)∧w'.cell? ⟨bt,4,none⟩=some (.slice aa L.length ka)∧w'.cell? ⟨bt,5,none⟩=some (.slice (some ⟨bv,ov,none⟩) N kv)∧w'.cell? ⟨bt,6,none⟩=some (.slice (some ⟨bh,oh,none⟩) L.length kh))∧(w'.cell? ⟨bl,ol+i*5+4,none⟩=some (.int .i64 op))) (by kernel_rfl) (⟨((C1.out.ext (Ext.trans b1 b2)).ext XE).c7,((C4.out.ext (Ext.trans b1 b2)).ext XE).c1⟩) (fun hHeld=>?_)
  refine tkH 0 hHeld ?_
  simp only [jP,jA,jB,jC,jD,jE,jF]
  refine tkH 1 hHeld ?_
  simp only [jP,jA,jB,jC,jD,jE,jF]
  refine tkH 2 hHeld ?_
  simp only [jP,jA,jB,jC,jD,jE,jF]
  refine tkH 3 hHeld ?_
  simp only [jP,jA,jB,jC,jD,jE,jF]
  refine tkH 4 hHeld ?_
  simp only [jP,jA,jB,jC,jD,jE,jF]
  refine tkH 5 hHeld ?_
  simp only [jP,jA,jB,jC,jD,jE,jF]
  refine tkH 6 hHeld ?_
  simp only [jP,jA,jB,jC,jD,jE,jF]
  refine tkH 7 hHeld ?_
  simp only [jP,jA,jB,jC,jD,jE,jF]
  refine tkH 8 hHeld ?_
  simp only [jP,jA,jB,jC,jD,jE,jF]
  refine tkH 9 hHeld ?_
  simp only [jP,jA,jB,jC,jD,jE,jF]
  refine tkH 10 hHeld ?_
  simp only [jP,jA,jB,jC,jD,jE,jF]
  refine tkH 11 hHeld ?_
  simp only [jP,jA,jB,jC,jD,jE,jF]
  refine tkH 12 hHeld ?_
  simp only [jP,jA,jB,jC,jD,jE,jF]
  refine tkH 13 hHeld ?_
  simp only [jP,jA,jB,jC,jD,jE,jF]
  refine tkH 14 hHeld ?_
  simp only [jP,jA,jB,jC,jD,jE,jF]
  refine wpAnyH_done (by kernel_rfl) ?_ _
  refine NoPanic.normal ?_
  by_cases h3:op=3
  ·have he:(op == 3)=true:=beqT h3
   rw [decide_eq_true h3] at hR
   clear h3
   by_cases hc:0 < c
   ·have hd1:decide (0 < c)=true:=decide_eq_true hc
    rw [hd1] at hR
    clear hc
    go_wp2_with fail
    exact hR.out _ _ (Gives.mk (Ext.trans (Ext.trans b1 b2) XE) rfl)
   ·have hd1:decide (0 < c)=false:=decide_eq_false hc
    rw [hd1] at hR
    clear hc
    go_wp2_with fail
    exact hR.out _ _ (Gives.mk (Ext.trans (Ext.trans b1 b2) XE) rfl)
  ·have he:(op == 3)=false:=beqF h3
   rw [decide_eq_false h3] at hR
   clear h3
   go_wp2_with fail
   exact hR.out _ _ (Gives.mk (Ext.trans (Ext.trans b1 b2) XE) rfl)
open Go.RowKit Go.Att Go.Sx

set_option linter.unusedSimpArgs false in
set_option maxHeartbeats 8000000 in
set_option maxRecDepth 100000 in
theorem helper_any {w:World} {bt n0:Nat} {L:List AT} {s:Stand} {bas:Nat→Nat} {row:Nat→Int} {al ab ar aa av ah:Option Addr} {kl kb kr ka kv kh:Nat} (h:TabR w bt n0 L (fun i=>s.D.A (bas i)) s.a s.b bas row al ab ar aa av ah kl kb kr ka kv kh)
  (hx:Ix n0 L.length s bas row) (hok:s.Ok (bnd n0 L)) (hn:n0+L.length≤100000) (sv:∀ v,v < n0+L.length→Sz 100 (s.a v)∧Sz 100 (s.b v)) (sh:∀ v,n0≤v→v < n0+L.length→Sz 100 ((bnd n0 L).hA v)∧Sz 100 ((bnd n0 L).hB v)) {v:Nat} {g:Bool} (hv:v < n0+L.length) (bv:s.D.B v=true):
  Calls Tryz.prog 37 #[.pointer (some ⟨bt,0,none⟩),.int .i64 v,.bool g] w (Gives w fun v' _=>(∃ k,v'=.int .i64 ((k:Nat):Int)∧Help (bnd n0 L) s v g k)∨(v'=.int .i64 (-1)∧∀ k,¬ Help (bnd n0 L) s v g k)):=by
 refine via fun R hR=>?_
 obtain ⟨N,hN⟩:∃ N,n0+L.length=N:=⟨_,rfl⟩
 have HN:=Lib.hid hN
 have H:=Lib.hid h
 have C1:=Lib.hid (h.cells hN)
 obtain ⟨hr1,hr2⟩:=hx.rw2 v hv bv
 have hr0:=(hx.rw1 v hv).2.1 bv
 obtain ⟨i,hi⟩:∃ i:Nat,row v=i:=⟨(row v).toNat,by omega⟩
 have hri:(row v).toNat=i:=by rw [hi];rfl
 rw [hri] at hr1 hr2
 have HRM:Hid (∀ w' u,Ext w w'→u < N→Calls Tryz.prog 60 #[.pointer (some ⟨bt,0,none⟩),.int .i64 u] w' (Gives w' fun v' _=>∃ d up:Bool,v'=.tuple #[.bool d,.bool up]∧(s.D.B u=false→(d=true↔u < n0∨(bnd n0 L).eq u=false)∧(up=true↔u < n0)))):=fun w' u X hu=>by
  have hu':u < n0+L.length:=by rw [hN];exact hu
  refine (room_any (H.out.ext X) hu' hn (sv u hu') (sh u)).mono fun _ _ ⟨v,e,b,o⟩=>⟨v,e,b,_,_,o,fun hb=>?_⟩
  by_cases h0:u < n0
  ·simp [h0]
  ·obtain ⟨e1,e2⟩:=hok.2.2.2 u (by show n0≤u;omega) hu' hb
   rw [cmpD_same e1 e2]
   simp [h0]
 have HROW:Hid (∀ w' u,Ext w w'→u < N→∃ b off,ar=some ⟨b,off,none⟩∧Att.Bo w' b (off+u) [.int .i64 (row u)]):=fun w' u X hu=>(H.out.ext X).row_at HN.out hu
 have HX:Hid (∀ u,u < N→(s.D.B u=true↔0≤row u)):=fun u hu=>(hx.rw1 u (by rw [hN];exact hu)).2
 have HE:Hid ((∀ j,j < N→s.D.B j=false→¬ CanH (bnd n0 L) s v g j)→∀ k,¬ Help (bnd n0 L) s v g k):=fun h1 k hp=>h1 k (by have h4:k < n0+L.length:=hp.hk;omega) hp.bk hp.can
 have HP:Hid (∀ k,k < N→s.D.B k=false→CanH (bnd n0 L) s v g k→(∀ j,j < k→s.D.B j=false→¬ CanH (bnd n0 L) s v g j)→Help (bnd n0 L) s v g k):=fun k h1 h2 h3 h4=>⟨by show k < n0+L.length;omega,h2,h3,h4⟩
 rw [hN] at hv hn
 obtain ⟨br,or,hare,hbr⟩:=h.row_at hN hv
 obtain ⟨ba,oa,x,k,rfl,hba,hra⟩:=h.a_at hN hr1
 rw [hi] at hbr
 rw [hr2] at hra
 have C2:=Lib.hid hbr
 have C3:=Lib.hid hba
 have RA:=Lib.hid hra
 have hV2:(0:Int)≤(v:Int)∧(v:Int) < (N:Int):=⟨by omega,by omega⟩
 have hI2:(0:Int)≤(i:Int)∧(i:Int) < (L.length:Int):=⟨by omega,by omega⟩
 clear h hx sv sh hbr hba hra hr0 hri hr2 bv hok hN hi
 subst hare
 go_enter Tryz.func37,Tryz.ntmps37
 go_upto_region 1 with (fail)
 have b1:=drew_ext w
 have XE:=b1
 refine wp_region_noPanic ?_
 refine wp_region_held_drew (S:=fun w'=>(w'.cell? ⟨bt,0,none⟩=some (.int .i64 n0)∧w'.cell? ⟨bt,1,none⟩=some (.slice al L.length kl)∧w'.cell? ⟨bt,2,none⟩=some (.slice ab L.length kb)∧w'.cell? ⟨bt,3,none⟩=some (.slice (some ⟨br,or,none⟩) N kr)∧w'.cell? ⟨bt,4,none⟩=some (.slice (some ⟨ba,oa,none⟩) L.length ka)∧w'.cell? ⟨bt,5,none⟩=some (.slice av N kv)∧w'.cell? ⟨bt,6,none⟩=some (.slice ah L.length kh))∧(w'.cell? ⟨br,or+v,none⟩=some (.int .i64 i))∧(w'.cell? ⟨ba,oa+i,none⟩=some (.slice x N k))) (by kernel_rfl) (⟨(C1.out.ext XE).c7,(C2.out.ext XE).c1,(C3.out.ext XE).c1⟩) (fun hHeld=>?_)
 refine tkH 0 hHeld ?_
 simp only [jP,jA,jB,jC,jD,jE,jF]
 refine tkH 1 hHeld ?_
 simp only [jP,jA,jB,jC,jD,jE,jF]
 refine tkH 2 hHeld ?_
 simp only [jP,jA,jB,jC,jD,jE,jF]
 refine tkH 3 hHeld ?_
 simp only [jP,jA,jB,jC,jD,jE,jF]
 refine tkH 4 hHeld ?_
 simp only [jP,jA,jB,jC,jD,jE,jF]
 refine tkH 5 hHeld ?_
 simp only [jP,jA,jB,jC,jD,jE,jF]
 refine tkH 6 hHeld ?_
 simp only [jP,jA,jB,jC,jD,jE,jF]
 refine tkH 7 hHeld ?_
 simp only [jP,jA,jB,jC,jD,jE,jF]
 refine tkH 8 hHeld ?_
 simp only [jP,jA,jB,jC,jD,jE,jF]
 refine tkH 9 hHeld ?_
 simp only [jP,jA,jB,jC,jD,jE,jF]
 refine tkH 10 hHeld ?_
 simp only [jP,jA,jB,jC,jD,jE,jF]
 refine tkH 11 hHeld ?_
 simp only [jP,jA,jB,jC,jD,jE,jF]
 refine tkH 12 hHeld ?_
 simp only [jP,jA,jB,jC,jD,jE,jF]
 refine tkH 13 hHeld ?_
 simp only [jP,jA,jB,jC,jD,jE,jF]
 refine wpAnyH_done (by kernel_rfl) ?_ _
 refine NoPanic.normal ?_
 clear hHeld
 go_wp2_with fail
 go_loopw [27] (fun t wr=>∃ u:Nat,t=.int .i64 u∧u≤N∧Ext w wr∧Hid (∀ j,j < u→s.D.B j=false→¬ CanH (bnd n0 L) s v g j)) (fun t _=>N - (intOf t).toNat)
 case atStart=>exact ⟨0,rfl,Nat.zero_le _,XE,fun y h1=>absurd h1 (Nat.not_lt_zero _)⟩
 case round=>
  clear XE b1
  obtain ⟨u,rfl,hu,hxr,hNO⟩:=hrel
  by_cases hul:u < N
  ·have hd:decide ((u:Int) < (N:Int))=true:=decide_eq_true (by omega)
   have HU1:IntKind.i64.wrap ((u:Int)+1)=((u+1:Nat):Int):=by rw [IntKind.wrap_i64];omega
   have hU2:(0:Int)≤(u:Int)∧(u:Int) < (N:Int):=⟨by omega,by omega⟩
   obtain ⟨bP,oP,ps,pa,pl,pk,pa',pl',pk',hpe,hpo,hpq⟩:=RA.out.oq u (by rw [tab_len];exact hul)
   rw [tab_gt hul] at hpq
   subst hpe
   obtain ⟨u0,u1,u2⟩:=(hpo.ext hxr).c3
   have HSG:Hid (Calls Tryz.prog 49 #[.agg #[.bool ps,.slice pa pl pk,.slice pa' pl' pk']] wr (Gives wr fun v' _=>v'=.int .i64 (s.D.A v u).num.sign)):=rsign_any (hpq.ext hxr).rd
   have HCN:Hid (CanH (bnd n0 L) s v g u↔s.D.A v u≠0∧(u < n0∨((bnd n0 L).eq u=false∧(g=true↔0 < s.D.A v u)))):=Iff.rfl
   have hz:(s.D.A v u).num.sign=0↔s.D.A v u=0:=num_sign_zero
   have hp:0 < (s.D.A v u).num.sign↔0 < s.D.A v u:=sggt
   have HZ:Hid (CanH (bnd n0 L) s v g u↔(s.D.A v u).num.sign≠0∧(u < n0∨((bnd n0 L).eq u=false∧(g=true↔0 < (s.D.A v u).num.sign)))):=by
    show _↔_
    rw [HCN.out,hp,Ne,Ne,hz]
   have HB:=Lib.hid (HX.out u hul)
   clear hpo hpq HCN hz hp
   generalize (s.D.A v u).num.sign=sg at*
   go_wp2_with fail
   refine HSG.out.mono ?_
   rintro e w2 ⟨_,rfl,b2,rfl⟩
   clear u0 u1 u2 HSG
   have x2:=Ext.trans hxr b2
   have D1:=Lib.hid (C1.out.ext x2)
   obtain ⟨-,-,-,k3,-,-,-⟩:=D1.out.c7
   obtain ⟨br',or',hare,hbr⟩:=HROW.out w2 u x2 hul
   simp only [Option.some.injEq,Addr.mk.injEq,and_true] at hare
   obtain ⟨rfl,rfl⟩:=hare
   have kr:=hbr.c1
   generalize row u=ru at*
   by_cases h0:sg=0
   ·have e0:(sg == 0)=true:=beqT h0
    have HNE:Hid (∀ j,j < u+1→s.D.B j=false→¬ CanH (bnd n0 L) s v g j):=fun j h1 h2=>by
     by_cases e:j=u
     ·rw [e,HZ.out];exact fun h=>h.1 h0
     ·exact hNO.out j (by omega) h2
    clear h0
    go_wp2_with fail
    go_roundw
    case rel=>exact ⟨u+1,by go_num,by omega,x2,HNE.out⟩
    case measure=>simp [intOf] <;> omega
   ·have e0:(sg == 0)=false:=beqF h0
    by_cases hr:0≤ru
    ·have er:decide (0≤ru)=true:=decide_eq_true hr
     have HNE:Hid (∀ j,j < u+1→s.D.B j=false→¬ CanH (bnd n0 L) s v g j):=fun j h1 h2=>by
      by_cases e:j=u
      ·rw [e] at h2;rw [HB.out.2 hr] at h2;cases h2
      ·exact hNO.out j (by omega) h2
     clear h0 hr
     go_wp2_with fail
     go_roundw
     case rel=>exact ⟨u+1,by go_num,by omega,x2,HNE.out⟩
     case measure=>simp [intOf] <;> omega
    ·have er:decide (0≤ru)=false:=decide_eq_false hr
     have hbf:s.D.B u=false:=by
      rw [← Bool.not_eq_true,HB.out];exact hr
     have HBF:=Lib.hid hbf
     have HSG0:=Lib.hid h0
     clear h0 hr hbf
     go_wp2_with fail
     refine (HRM.out w2 u x2 hul).mono ?_
     rintro e w3 ⟨_,rfl,b3,d,up,rfl,o3⟩
     obtain ⟨hd1,hup⟩:=o3 HBF.out
     clear o3 k3 kr hbr
     have x3:=Ext.trans x2 b3
     by_cases hp:0 < sg
     ·have hp1:decide (0 < sg)=true:=decide_eq_true hp
      have HC:Hid (CanH (bnd n0 L) s v g u↔(g && d || !g && up)=true):=by
       show _↔_
       rw [HZ.out]
       have h0:=HSG0.out
       by_cases hu0:u < n0
       ·have e1:d=true:=hd1.2 (.inl hu0)
        have e2:up=true:=hup.2 hu0
        rw [e1,e2]
        cases g <;> simp [h0,hu0]
       ·have e2:up=false:=by rw [← Bool.not_eq_true,hup];exact hu0
        rw [e2]
        cases hee:(bnd n0 L).eq u
        ·have e1:d=true:=hd1.2 (.inr hee)
         rw [e1]
         cases g <;> simp [h0,hu0,hp]
        ·have e1:d=false:=by
          rw [← Bool.not_eq_true,hd1,hee]
          rintro (h | h)
          ·exact hu0 h
          ·cases h
         rw [e1]
         cases g <;> simp [hu0]
      clear hp HSG0 hd1 hup HZ
      have HNE:Hid (¬ CanH (bnd n0 L) s v g u→∀ j,j < u+1→s.D.B j=false→¬ CanH (bnd n0 L) s v g j):=fun hn j h1 h2=>by
       by_cases e:j=u
       ·rw [e];exact hn
       ·exact hNO.out j (by omega) h2
      have HM:Hid (N - (intOf (.int .i64 ((u:Int)+1))).toNat < N - (intOf (.int .i64 (u:Int))).toNat):=by
       show N - ((u:Int)+1).toNat < N - (u:Int).toNat
       omega
      cases g <;> cases d <;> cases up <;> go_wp2_with fail
      all_goals first
       | exact hR.out _ _ (Gives.mk x3 (.inl ⟨u,rfl,HP.out u hul HBF.out (HC.out.2 rfl) hNO.out⟩))
       | exact ⟨⟨u+1,by go_num,by omega,x3,HNE.out fun h=>absurd (HC.out.1 h) (by decide)⟩,HM.out⟩
     ·have hp1:decide (0 < sg)=false:=decide_eq_false hp
      have HC:Hid (CanH (bnd n0 L) s v g u↔(!g && d || g && up)=true):=by
       show _↔_
       rw [HZ.out]
       have h0:=HSG0.out
       by_cases hu0:u < n0
       ·have e1:d=true:=hd1.2 (.inl hu0)
        have e2:up=true:=hup.2 hu0
        rw [e1,e2]
        cases g <;> simp [h0,hu0]
       ·have e2:up=false:=by rw [← Bool.not_eq_true,hup];exact hu0
        rw [e2]
        cases hee:(bnd n0 L).eq u
        ·have e1:d=true:=hd1.2 (.inr hee)
         rw [e1]
         cases g <;> simp [h0,hu0,hp]
        ·have e1:d=false:=by
          rw [← Bool.not_eq_true,hd1,hee]
          rintro (h | h)
          ·exact hu0 h
          ·cases h
         rw [e1]
         cases g <;> simp [hu0]
      clear hp HSG0 hd1 hup HZ
      have HNE:Hid (¬ CanH (bnd n0 L) s v g u→∀ j,j < u+1→s.D.B j=false→¬ CanH (bnd n0 L) s v g j):=fun hn j h1 h2=>by
       by_cases e:j=u
       ·rw [e];exact hn
       ·exact hNO.out j (by omega) h2
      have HM:Hid (N - (intOf (.int .i64 ((u:Int)+1))).toNat < N - (intOf (.int .i64 (u:Int))).toNat):=by
       show N - ((u:Int)+1).toNat < N - (u:Int).toNat
       omega
      cases g <;> cases d <;> cases up <;> go_wp2_with fail
      all_goals first
       | exact hR.out _ _ (Gives.mk x3 (.inl ⟨u,rfl,HP.out u hul HBF.out (HC.out.2 rfl) hNO.out⟩))
       | exact ⟨⟨u+1,by go_num,by omega,x3,HNE.out fun h=>absurd (HC.out.1 h) (by decide)⟩,HM.out⟩
  ·obtain rfl:u=N:=by omega
   have hd:decide ((u:Int) < (u:Int))=false:=decide_eq_false (by omega)
   go_wp2_with fail
   exact hR.out _ _ (Gives.mk hxr (.inr ⟨rfl,HE.out hNO.out⟩))
open Go.RowKit Go.Att Go.Sx

def BroR (P:Bnd) (s:Stand) (v:Value):Prop:=(∃ r g,v=.tuple #[.int .i64 ((r:Nat):Int),.bool g]∧Pick P s r g)∨(v=.tuple #[.int .i64 (-1),.bool false]∧∀ r g,¬ Pick P s r g)
set_option linter.unusedSimpArgs false in
set_option maxHeartbeats 8000000 in
set_option maxRecDepth 100000 in
theorem broken_any {w:World} {bt n0:Nat} {L:List AT} {s:Stand} {bas:Nat→Nat} {row:Nat→Int} {al ab ar aa av ah:Option Addr} {kl kb kr ka kv kh:Nat} (h:TabR w bt n0 L (fun i=>s.D.A (bas i)) s.a s.b bas row al ab ar aa av ah kl kb kr ka kv kh)
  (hx:Ix n0 L.length s bas row) (hn:n0+L.length≤100000) (sv:∀ v,v < n0+L.length→Sz 100 (s.a v)∧Sz 100 (s.b v)) (sh:∀ v,n0≤v→v < n0+L.length→Sz 100 ((bnd n0 L).hA v)∧Sz 100 ((bnd n0 L).hB v)):
  Calls Tryz.prog 35 #[.pointer (some ⟨bt,0,none⟩)] w (Gives w fun v' _=>BroR (bnd n0 L) s v'):=by
 refine via fun R hR=>?_
 obtain ⟨N,hN⟩:∃ N,n0+L.length=N:=⟨_,rfl⟩
 have HN:=Lib.hid hN
 have h0N:n0≤N:=by omega
 have hiN:Hid (∀ u,n0≤u→u < N→u - n0 < L.length):=fun u h1 h2=>by omega
 rw [hN] at hn sv sh
 have H:=Lib.hid h
 have HX:Hid (∀ v,v < N → -1≤row v∧(s.D.B v=true↔0≤row v)):=fun v hv=>hx.rw1 v (by rw [hN];exact hv)
 have SV:=Lib.hid sv
 have SH:=Lib.hid sh
 have C1:=Lib.hid (h.cells hN)
 have HE:Hid ((∀ y,n0≤y→y < N→s.D.B y=true→¬ Over (bnd n0 L) s y∧¬ Under (bnd n0 L) s y)→∀ r g,¬ Pick (bnd n0 L) s r g):=fun h1 r g hp=>by
  have h3:=h1 r hp.hr (by have h4:r < n0+L.length:=hp.hrN;omega) hp.br
  have h5:=hp.over
  split at h5
  ·exact h3.1 h5
  ·exact h3.2 h5
 have HP:Hid (∀ u g,n0≤u→u < N→s.D.B u=true→(if g=true then Over (bnd n0 L) s u else Under (bnd n0 L) s u)→(∀ y,n0≤y→y < u→s.D.B y=true→¬ Over (bnd n0 L) s y∧¬ Under (bnd n0 L) s y)→Pick (bnd n0 L) s u g):=fun u g h1 h2 h3 h4 h5=>⟨h1,by show u < n0+L.length;omega,h3,h4,h5⟩
 clear h hx sv sh hN
 go_enter Tryz.func35,Tryz.ntmps35
 obtain ⟨k0,-,-,-,-,-,-⟩:=C1.out.c7
 go_wp2_with fail
 clear k0
 go_loopw [4] (fun t wr=>∃ u:Nat,t=.int .i64 u∧n0≤u∧u≤N∧Ext w wr∧Hid (∀ y,n0≤y→y < u→s.D.B y=true→¬ Over (bnd n0 L) s y∧¬ Under (bnd n0 L) s y)) (fun t _=>N - (intOf t).toNat)
 case atStart=>exact ⟨n0,rfl,Nat.le_refl _,h0N,Ext.refl _,fun y h1 h2=>absurd h1 (by omega)⟩
 case round=>
  obtain ⟨u,rfl,hu0,hu,hxr,hNO⟩:=hrel
  have D1:=Lib.hid (C1.out.ext hxr)
  obtain ⟨k0,-,-,k3,-,-,-⟩:=D1.out.c7
  by_cases hul:u < N
  ·have hd:decide ((u:Int) < (N:Int))=true:=decide_eq_true (by omega)
   obtain ⟨br,or,rfl,hbr⟩:=(H.out.ext hxr).row_at HN.out hul
   have HV3:(0:Int)≤(u:Int)∧(u:Int) < (N:Int):=⟨by omega,by omega⟩
   have HU1:IntKind.i64.wrap ((u:Int)+1)=((u+1:Nat):Int):=by rw [IntKind.wrap_i64];omega
   have kr:=hbr.c1
   have R1:=Lib.hid (HX.out u hul)
   generalize row u=ru at*
   by_cases hneg:ru < 0
   ·have hdn:decide (ru < 0)=true:=decide_eq_true hneg
    have HNE:Hid (∀ y,n0≤y→y < u+1→s.D.B y=true→¬ Over (bnd n0 L) s y∧¬ Under (bnd n0 L) s y):=fun y h1 h2 h3=>by
     by_cases e:y=u
     ·have:=(R1.out.2.1 (e ▸ h3));omega
     ·exact hNO.out y h1 (by omega) h3
    clear hneg
    go_wp2_with fail
    go_roundw
    case rel=>exact ⟨u+1,by go_num,by omega,by omega,hxr,HNE.out⟩
    case measure=>simp [intOf] <;> omega
   ·have hdn:decide (ru < 0)=false:=decide_eq_false hneg
    have HBU:Hid (s.D.B u=true):=R1.out.2.2 (by omega)
    have hi:u - n0 < L.length:=hiN.out u hu0 hul
    obtain ⟨bv,ov,sg,x,k,m,y,k',m',t,x2,k2,m2,y2,k2',m2',rfl,hbv,hov⟩:=(H.out.ext hxr).val_at HN.out hul
    obtain ⟨bh,oh,sg',z,j,n,z',j',n',t',z2,j2,n2,z2',j2',n2',rfl,hbh,hoh⟩:=(H.out.ext hxr).hi_at hi
    obtain ⟨bl,ol,rfl,hbl⟩:=(H.out.ext hxr).op_at hi
    rw [show n0+(u - n0)=u by omega] at hoh
    have C2:=Lib.hid hbv
    have C3:=Lib.hid hbh
    have C4:=Lib.hid hbl
    have HCM:Hid (∀ w',Ext wr w'→Calls Tryz.prog 57 #[.agg #[.bool sg,.slice x k m,.slice y k' m',.bool t,.slice x2 k2 m2,.slice y2 k2' m2'],.agg #[.bool sg',.slice z j n,.slice z' j' n',.bool t',.slice z2 j2 n2,.slice z2' j2' n2']] w' (Gives w' fun v' _=>v'=.int .i64 (cmpD (s.a u) (s.b u) ((bnd n0 L).hA u) ((bnd n0 L).hB u)))):=fun w' X=>
     dcmp_any (hov.ext X).rd (hoh.ext X).rd ((SV.out u hul).1.le (by decide)) ((SV.out u hul).2.le (by decide)) ((SH.out u hu0 hul).1.le (by decide)) ((SH.out u hu0 hul).2.le (by decide))
    have HOV:=Lib.hid (over_iff (n0:=n0) (L:=L) (s:=s) (v:=u))
    have HUN:=Lib.hid (under_iff (n0:=n0) (L:=L) (s:=s) (v:=u))
    have HV1:IntKind.i64.wrap ((u:Int) - (n0:Int))=((u - n0:Nat):Int):=by rw [IntKind.wrap_i64];omega
    have HV2:(0:Int)≤((u - n0:Nat):Int)∧((u - n0:Nat):Int) < (L.length:Int):=⟨by omega,by omega⟩
    clear hbv hov hbh hoh hbl hneg
    generalize cmpD (s.a u) (s.b u) ((bnd n0 L).hA u) ((bnd n0 L).hB u)=c at*
    generalize (gt L (u - n0)).2=op at*
    generalize u - n0=i at*
    go_upto_region 5 with (fail)
    clear k0 k3 kr hbr
    obtain ⟨w1,hw1⟩:∃ w0:World,w0=wr:=⟨_,rfl⟩
    subst hw1
    have b2:=drew_ext w1
    have XE:=b2
    refine wp_region_noPanic ?_
    refine wp_region_held_drew (S:=fun w'=>(w'.cell? ⟨bt,0,none⟩=some (.int .i64 n0)∧w'.cell? ⟨bt,1,none⟩=some (.slice (some ⟨bl,ol,none⟩) L.length kl)∧w'.cell? ⟨bt,2,none⟩=some (.slice ab L.length kb)∧w'.cell? ⟨bt,3,none⟩=some (.slice (some ⟨br,or,none⟩) N kr)∧w'.cell? ⟨bt,4,none⟩=some (.slice aa L.length ka)∧w'.cell? ⟨bt,5,none⟩=some (.slice (some ⟨bv,ov,none⟩) N kv)∧w'.cell? ⟨bt,6,none⟩=some (.slice (some ⟨bh,oh,none⟩) L.length kh))∧(w'.cell? ⟨bv,ov+u*6,none⟩=some (.bool sg)∧w'.cell? ⟨bv,ov+u*6+1,none⟩=some (.slice x k m)∧w'.cell? ⟨bv,ov+u*6+2,none⟩=some (.slice y k' m')∧w'.cell? ⟨bv,ov+u*6+3,none⟩=some (.bool t)∧w'.cell? ⟨bv,ov+u*6+4,none⟩=some (.slice x2 k2 m2)∧w'.cell? ⟨bv,ov+u*6+5,none⟩=some (.slice y2 k2' m2'))∧(w'.cell? ⟨bh,oh+i*6,none⟩=some (.bool sg')∧w'.cell? ⟨bh,oh+i*6+1,none⟩=some (.slice z j n)∧w'.cell? ⟨bh,oh+i*6+2,none⟩=some (.slice z' j' n')∧w'.cell? ⟨bh,oh+i*6+3,none⟩=some (.bool t')∧w'.cell? ⟨bh,oh+i*6+4,none⟩=some (.slice z2 j2 n2)∧w'.cell? ⟨bh,oh+i*6+5,none⟩=some (.slice z2' j2' n2'))) (by kernel_rfl) (⟨(D1.out.ext XE).c7,(C2.out.ext XE).c6,(C3.out.ext XE).c6⟩) (fun hHeld=>?_)
    refine tkH 0 hHeld ?_
    simp only [jP,jA,jB,jC,jD,jE,jF]
    refine tkH 1 hHeld ?_
    simp only [jP,jA,jB,jC,jD,jE,jF]
    refine tkH 2 hHeld ?_
    simp only [jP,jA,jB,jC,jD,jE,jF]
    refine tkH 3 hHeld ?_
    simp only [jP,jA,jB,jC,jD,jE,jF]
    refine tkH 4 hHeld ?_
    simp only [jP,jA,jB,jC,jD,jE,jF]
    refine tkH 5 hHeld ?_
    simp only [jP,jA,jB,jC,jD,jE,jF]
    refine tkH 6 hHeld ?_
    simp only [jP,jA,jB,jC,jD,jE,jF]
    refine tkH 7 hHeld ?_
    simp only [jP,jA,jB,jC,jD,jE,jF]
    refine tkH 8 hHeld ?_
    simp only [jP,jA,jB,jC,jD,jE,jF]
    refine tkH 9 hHeld ?_
    simp only [jP,jA,jB,jC,jD,jE,jF]
    refine tkH 10 hHeld ?_
    simp only [jP,jA,jB,jC,jD,jE,jF]
    refine tkH 11 hHeld ?_
    simp only [jP,jA,jB,jC,jD,jE,jF]
    refine tkH 12 hHeld ?_
    simp only [jP,jA,jB,jC,jD,jE,jF]
    refine tkH 13 hHeld ?_
    simp only [jP,jA,jB,jC,jD,jE,jF]
    refine tkH 14 hHeld ?_
    simp only [jP,jA,jB,jC,jD,jE,jF]
    refine tkH 15 hHeld ?_
    simp only [jP,jA,jB,jC,jD,jE,jF]
    refine tkH 16 hHeld ?_
    simp only [jP,jA,jB,jC,jD,jE,jF]
    refine tkH 17 hHeld ?_
    simp only [jP,jA,jB,jC,jD,jE,jF]
    refine tkH 18 hHeld ?_
    simp only [jP,jA,jB,jC,jD,jE,jF]
    refine rdH 19 (by kernel_rfl) rfl (fun K hK=>?_)
    go_simp
    go_at_call 57;refine (HCM.out _ XE).mono ?_;rintro e w3 ⟨_,rfl,b3,rfl⟩;(first | have XE:=Ext.trans XE b3 | have XE:=Ext.trans (Ext.trans XE (Ext.alloc _ _)) b3)
    go_wp2_with fail
    refine hK.out _ _ (⟨(D1.out.ext XE).c7,(C2.out.ext XE).c6,(C3.out.ext XE).c6⟩) (fun hHeld=>?_)
    clear hK K
    try simp only [jP,jA,jB,jC,jD,jE,jF]
    refine tkH 20 hHeld ?_
    simp only [jP,jA,jB,jC,jD,jE,jF]
    refine wpAnyH_done (by kernel_rfl) ?_ _
    refine NoPanic.normal ?_
    clear hHeld
    go_wp2_with fail
    by_cases hc1:0 < c
    ·have hd1:decide (0 < c)=true:=decide_eq_true hc1
     have b4:=drew_ext w3
     have XE:=b4
     refine wp_region_noPanic ?_
     refine wp_region_held_drew (S:=fun w'=>w'.cell? ⟨bt,0,none⟩=some (.int .i64 n0)∧w'.cell? ⟨bt,1,none⟩=some (.slice (some ⟨bl,ol,none⟩) L.length kl)∧w'.cell? ⟨bt,2,none⟩=some (.slice ab L.length kb)∧w'.cell? ⟨bt,3,none⟩=some (.slice (some ⟨br,or,none⟩) N kr)∧w'.cell? ⟨bt,4,none⟩=some (.slice aa L.length ka)∧w'.cell? ⟨bt,5,none⟩=some (.slice (some ⟨bv,ov,none⟩) N kv)∧w'.cell? ⟨bt,6,none⟩=some (.slice (some ⟨bh,oh,none⟩) L.length kh)) (by kernel_rfl) (((D1.out.ext (Ext.trans b2 b3)).ext XE).c7) (fun hHeld=>?_)
     refine tkH 0 hHeld ?_
     simp only [jP,jA,jB,jC,jD,jE,jF]
     refine tkH 1 hHeld ?_
     simp only [jP,jA,jB,jC,jD,jE,jF]
     refine tkH 2 hHeld ?_
     simp only [jP,jA,jB,jC,jD,jE,jF]
     refine wpAnyH_take (i:=3) rfl (by kernel_rfl) (by kernel_rfl) (by kernel_rfl) (fun _ _ _ h=>h) (Or.inr ⟨by rfl,rfl⟩) hHeld ?_
     simp only [jP,jA,jB,jC,jD,jE,jF]
     refine wpAnyH_take (i:=4) rfl (by kernel_rfl) (by kernel_rfl) (by kernel_rfl) (fun _ _ _ h=>h) (Or.inr ⟨by rfl,rfl⟩) hHeld ?_
     simp only [jP,jA,jB,jC,jD,jE,jF]
     refine wpAnyH_take (i:=5) rfl (by kernel_rfl) (by kernel_rfl) (by kernel_rfl) (fun _ _ _ h=>h) (Or.inr ⟨by rfl,rfl⟩) hHeld ?_
     simp only [jP,jA,jB,jC,jD,jE,jF]
     refine wpAnyH_take (i:=6) rfl (by kernel_rfl) (by kernel_rfl) (by kernel_rfl) (fun _ _ _ h=>h) (Or.inr ⟨by rfl,rfl⟩) hHeld ?_
     simp only [jP,jA,jB,jC,jD,jE,jF]
     refine wpAnyH_take (i:=7) rfl (by kernel_rfl) (by kernel_rfl) (by kernel_rfl) (fun _ _ _ h=>h) (Or.inr ⟨by rfl,rfl⟩) hHeld ?_
     simp only [jP,jA,jB,jC,jD,jE,jF]
     refine wpAnyH_take (i:=8) rfl (by kernel_rfl) (by kernel_rfl) (by kernel_rfl) (fun _ _ _ h=>h) (Or.inr ⟨by rfl,rfl⟩) hHeld ?_
     simp only [jP,jA,jB,jC,jD,jE,jF]
     refine wpAnyH_take (i:=9) rfl (by kernel_rfl) (by kernel_rfl) (by kernel_rfl) (fun _ _ _ h=>h) (Or.inr ⟨by rfl,rfl⟩) hHeld ?_
     simp only [jP,jA,jB,jC,jD,jE,jF]
     refine wpAnyH_take (i:=10) rfl (by kernel_rfl) (by kernel_rfl) (by kernel_rfl) (fun _ _ _ h=>h) (Or.inr ⟨by rfl,rfl⟩) hHeld ?_
     simp only [jP,jA,jB,jC,jD,jE,jF]
     refine wpAnyH_take (i:=11) rfl (by kernel_rfl) (by kernel_rfl) (by kernel_rfl) (fun _ _ _ h=>h) (Or.inr ⟨by rfl,rfl⟩) hHeld ?_
     simp only [jP,jA,jB,jC,jD,jE,jF]
     refine wpAnyH_take (i:=12) rfl (by kernel_rfl) (by kernel_rfl) (by kernel_rfl) (fun _ _ _ h=>h) (Or.inr ⟨by rfl,rfl⟩) hHeld ?_
     simp only [jP,jA,jB,jC,jD,jE,jF]
     refine wpAnyH_take (i:=13) rfl (by kernel_rfl) (by kernel_rfl) (by kernel_rfl) (fun _ _ _ h=>h) (Or.inr ⟨by rfl,rfl⟩) hHeld ?_
     simp only [jP,jA,jB,jC,jD,jE,jF]
     refine wpAnyH_take (i:=14) rfl (by kernel_rfl) (by kernel_rfl) (by kernel_rfl) (fun _ _ _ h=>h) (Or.inr ⟨by rfl,rfl⟩) hHeld ?_
     simp only [jP,jA,jB,jC,jD,jE,jF]
     refine wpAnyH_take (i:=15) rfl (by kernel_rfl) (by kernel_rfl) (by kernel_rfl) (fun _ _ _ h=>h) (Or.inr ⟨by rfl,rfl⟩) hHeld ?_
     simp only [jP,jA,jB,jC,jD,jE,jF]
     refine wpAnyH_take (i:=16) rfl (by kernel_rfl) (by kernel_rfl) (by kernel_rfl) (fun _ _ _ h=>h) (Or.inr ⟨by rfl,rfl⟩) hHeld ?_
     simp only [jP,jA,jB,jC,jD,jE,jF]
     refine wpAnyH_take (i:=17) rfl (by kernel_rfl) (by kernel_rfl) (by kernel_rfl) (fun _ _ _ h=>h) (Or.inr ⟨by rfl,rfl⟩) hHeld ?_
     simp only [jP,jA,jB,jC,jD,jE,jF]
     refine wpAnyH_take (i:=18) rfl (by kernel_rfl) (by kernel_rfl) (by kernel_rfl) (fun _ _ _ h=>h) (Or.inr ⟨by rfl,rfl⟩) hHeld ?_
     simp only [jP,jA,jB,jC,jD,jE,jF]
     refine wpAnyH_take (i:=19) rfl (by kernel_rfl) (by kernel_rfl) (by kernel_rfl) (fun _ _ _ h=>h) (Or.inr ⟨by rfl,rfl⟩) hHeld ?_
     simp only [jP,jA,jB,jC,jD,jE,jF]
     refine wpAnyH_take (i:=20) rfl (by kernel_rfl) (by kernel_rfl) (by kernel_rfl) (fun _ _ _ h=>h) (Or.inr ⟨by rfl,rfl⟩) hHeld ?_
     simp only [jP,jA,jB,jC,jD,jE,jF]
     refine tkH 21 hHeld ?_
     simp only [jP,jA,jB,jC,jD,jE,jF]
     refine wpAnyH_done (by kernel_rfl) ?_ _
     refine NoPanic.normal ?_
     go_wp2_with fail
     exact hR.out _ _ (Gives.mk (Ext.trans hxr (Ext.trans (Ext.trans b2 b3) XE)) (.inl ⟨u,true,rfl,HP.out u true hu0 hul HBU.out (by rw [if_pos rfl];exact HOV.out.1 hc1) hNO.out⟩))
    ·have hd1:decide (0 < c)=false:=decide_eq_false hc1
     by_cases hc2:c < 0
     ·have hd2:decide (c < 0)=true:=decide_eq_true hc2
      have b4:=drew_ext w3
      have XE:=b4
      refine wp_region_noPanic ?_
      refine wp_region_held_drew (S:=fun w'=>(w'.cell? ⟨bt,0,none⟩=some (.int .i64 n0)∧w'.cell? ⟨bt,1,none⟩=some (.slice (some ⟨bl,ol,none⟩) L.length kl)∧w'.cell? ⟨bt,2,none⟩=some (.slice ab L.length kb)∧w'.cell? ⟨bt,3,none⟩=some (.slice (some ⟨br,or,none⟩) N kr)∧w'.cell? ⟨bt,4,none⟩=some (.slice aa L.length ka)∧w'.cell? ⟨bt,5,none⟩=some (.slice (some ⟨bv,ov,none⟩) N kv)∧w'.cell? ⟨bt,6,none⟩=some (.slice (some ⟨bh,oh,none⟩) L.length kh))∧(w'.cell? ⟨bl,ol+i*5+4,none⟩=some (.int .i64 op))) (by kernel_rfl) (⟨((D1.out.ext (Ext.trans b2 b3)).ext XE).c7,((C4.out.ext (Ext.trans b2 b3)).ext XE).c1⟩) (fun hHeld=>?_)
      refine tkH 0 hHeld ?_
      simp only [jP,jA,jB,jC,jD,jE,jF]
      refine tkH 1 hHeld ?_
      simp only [jP,jA,jB,jC,jD,jE,jF]
      refine tkH 2 hHeld ?_
      simp only [jP,jA,jB,jC,jD,jE,jF]
      refine tkH 3 hHeld ?_
      simp only [jP,jA,jB,jC,jD,jE,jF]
      refine tkH 4 hHeld ?_
      simp only [jP,jA,jB,jC,jD,jE,jF]
      refine tkH 5 hHeld ?_
      simp only [jP,jA,jB,jC,jD,jE,jF]
      refine tkH 6 hHeld ?_
      simp only [jP,jA,jB,jC,jD,jE,jF]
      refine tkH 7 hHeld ?_
      simp only [jP,jA,jB,jC,jD,jE,jF]
      refine tkH 8 hHeld ?_
      simp only [jP,jA,jB,jC,jD,jE,jF]
      refine tkH 9 hHeld ?_
      simp only [jP,jA,jB,jC,jD,jE,jF]
      refine tkH 10 hHeld ?_
      simp only [jP,jA,jB,jC,jD,jE,jF]
      refine tkH 11 hHeld ?_
      simp only [jP,jA,jB,jC,jD,jE,jF]
      refine tkH 12 hHeld ?_
      simp only [jP,jA,jB,jC,jD,jE,jF]
      refine tkH 13 hHeld ?_
      simp only [jP,jA,jB,jC,jD,jE,jF]
      refine tkH 14 hHeld ?_
      simp only [jP,jA,jB,jC,jD,jE,jF]
      refine tkH 15 hHeld ?_
      simp only [jP,jA,jB,jC,jD,jE,jF]
      refine tkH 16 hHeld ?_
      simp only [jP,jA,jB,jC,jD,jE,jF]
      refine tkH 17 hHeld ?_
      simp only [jP,jA,jB,jC,jD,jE,jF]
      refine tkH 18 hHeld ?_
      simp only [jP,jA,jB,jC,jD,jE,jF]
      refine tkH 19 hHeld ?_
      simp only [jP,jA,jB,jC,jD,jE,jF]
      refine tkH 20 hHeld ?_
      simp only [jP,jA,jB,jC,jD,jE,jF]
      refine tkH 21 hHeld ?_
      simp only [jP,jA,jB,jC,jD,jE,jF]
      refine wpAnyH_done (by kernel_rfl) ?_ _
      refine NoPanic.normal ?_
      by_cases h3:op=3
      ·have he:(op == 3)=true:=beqT h3
       have HU:=Lib.hid (HUN.out.1 ⟨hc2,h3⟩)
       clear h3 hc1 hc2
       go_wp2_with fail
       exact hR.out _ _ (Gives.mk (Ext.trans hxr (Ext.trans (Ext.trans b2 b3) XE)) (.inl ⟨u,false,rfl,HP.out u false hu0 hul HBU.out (by rw [if_neg (by decide)];exact HU.out) hNO.out⟩))
      ·have he:(op == 3)=false:=beqF h3
       have HNE:Hid (∀ y,n0≤y→y < u+1→s.D.B y=true→¬ Over (bnd n0 L) s y∧¬ Under (bnd n0 L) s y):=fun y h1 h2 h4=>by
        by_cases e:y=u
        ·rw [e];exact ⟨fun h=>hc1 (HOV.out.2 h),fun h=>h3 (HUN.out.2 h).2⟩
        ·exact hNO.out y h1 (by omega) h4
       clear h3 hc1 hc2
       go_wp2_with fail
       go_roundw
       case rel=>exact ⟨u+1,by go_num,by omega,by omega,Ext.trans hxr (Ext.trans (Ext.trans b2 b3) XE),HNE.out⟩
       case measure=>simp [intOf] <;> omega
     ·have hd2:decide (c < 0)=false:=decide_eq_false hc2
      have b4:=drew_ext w3
      have XE:=b4
      refine wp_region_noPanic ?_
      refine wp_region_held_drew (S:=fun w'=>w'.cell? ⟨bt,0,none⟩=some (.int .i64 n0)∧w'.cell? ⟨bt,1,none⟩=some (.slice (some ⟨bl,ol,none⟩) L.length kl)∧w'.cell? ⟨bt,2,none⟩=some (.slice ab L.length kb)∧w'.cell? ⟨bt,3,none⟩=some (.slice (some ⟨br,or,none⟩) N kr)∧w'.cell? ⟨bt,4,none⟩=some (.slice aa L.length ka)∧w'.cell? ⟨bt,5,none⟩=some (.slice (some ⟨bv,ov,none⟩) N kv)∧w'.cell? ⟨bt,6,none⟩=some (.slice (some ⟨bh,oh,none⟩) L.length kh)) (by kernel_rfl) (((D1.out.ext (Ext.trans b2 b3)).ext XE).c7) (fun hHeld=>?_)
      refine tkH 0 hHeld ?_
      simp only [jP,jA,jB,jC,jD,jE,jF]
      refine tkH 1 hHeld ?_
      simp only [jP,jA,jB,jC,jD,jE,jF]
      refine tkH 2 hHeld ?_
      simp only [jP,jA,jB,jC,jD,jE,jF]
      refine tkH 3 hHeld ?_
      simp only [jP,jA,jB,jC,jD,jE,jF]
      refine tkH 4 hHeld ?_
      simp only [jP,jA,jB,jC,jD,jE,jF]
      refine tkH 5 hHeld ?_
      simp only [jP,jA,jB,jC,jD,jE,jF]
      refine wpAnyH_take (i:=6) rfl (by kernel_rfl) (by kernel_rfl) (by kernel_rfl) (fun _ _ _ h=>h) (Or.inr ⟨by rfl,rfl⟩) hHeld ?_
      simp only [jP,jA,jB,jC,jD,jE,jF]
      refine wpAnyH_take (i:=7) rfl (by kernel_rfl) (by kernel_rfl) (by kernel_rfl) (fun _ _ _ h=>h) (Or.inr ⟨by rfl,rfl⟩) hHeld ?_
      simp only [jP,jA,jB,jC,jD,jE,jF]
      refine wpAnyH_take (i:=8) rfl (by kernel_rfl) (by kernel_rfl) (by kernel_rfl) (fun _ _ _ h=>h) (Or.inr ⟨by rfl,rfl⟩) hHeld ?_
      simp only [jP,jA,jB,jC,jD,jE,jF]
      refine wpAnyH_take (i:=9) rfl (by kernel_rfl) (by kernel_rfl) (by kernel_rfl) (fun _ _ _ h=>h) (Or.inr ⟨by rfl,rfl⟩) hHeld ?_
      simp only [jP,jA,jB,jC,jD,jE,jF]
      refine wpAnyH_take (i:=10) rfl (by kernel_rfl) (by kernel_rfl) (by kernel_rfl) (fun _ _ _ h=>h) (Or.inr ⟨by rfl,rfl⟩) hHeld ?_
      simp only [jP,jA,jB,jC,jD,jE,jF]
      refine wpAnyH_take (i:=11) rfl (by kernel_rfl) (by kernel_rfl) (by kernel_rfl) (fun _ _ _ h=>h) (Or.inr ⟨by rfl,rfl⟩) hHeld ?_
      simp only [jP,jA,jB,jC,jD,jE,jF]
      refine wpAnyH_take (i:=12) rfl (by kernel_rfl) (by kernel_rfl) (by kernel_rfl) (fun _ _ _ h=>h) (Or.inr ⟨by rfl,rfl⟩) hHeld ?_
      simp only [jP,jA,jB,jC,jD,jE,jF]
      refine wpAnyH_take (i:=13) rfl (by kernel_rfl) (by kernel_rfl) (by kernel_rfl) (fun _ _ _ h=>h) (Or.inr ⟨by rfl,rfl⟩) hHeld ?_
      simp only [jP,jA,jB,jC,jD,jE,jF]
      refine wpAnyH_take (i:=14) rfl (by kernel_rfl) (by kernel_rfl) (by kernel_rfl) (fun _ _ _ h=>h) (Or.inr ⟨by rfl,rfl⟩) hHeld ?_
      simp only [jP,jA,jB,jC,jD,jE,jF]
      refine wpAnyH_take (i:=15) rfl (by kernel_rfl) (by kernel_rfl) (by kernel_rfl) (fun _ _ _ h=>h) (Or.inr ⟨by rfl,rfl⟩) hHeld ?_
      simp only [jP,jA,jB,jC,jD,jE,jF]
      refine wpAnyH_take (i:=16) rfl (by kernel_rfl) (by kernel_rfl) (by kernel_rfl) (fun _ _ _ h=>h) (Or.inr ⟨by rfl,rfl⟩) hHeld ?_
      simp only [jP,jA,jB,jC,jD,jE,jF]
      refine wpAnyH_take (i:=17) rfl (by kernel_rfl) (by kernel_rfl) (by kernel_rfl) (fun _ _ _ h=>h) (Or.inr ⟨by rfl,rfl⟩) hHeld ?_
      simp only [jP,jA,jB,jC,jD,jE,jF]
      refine wpAnyH_take (i:=18) rfl (by kernel_rfl) (by kernel_rfl) (by kernel_rfl) (fun _ _ _ h=>h) (Or.inr ⟨by rfl,rfl⟩) hHeld ?_
      simp only [jP,jA,jB,jC,jD,jE,jF]
      refine wpAnyH_take (i:=19) rfl (by kernel_rfl) (by kernel_rfl) (by kernel_rfl) (fun _ _ _ h=>h) (Or.inr ⟨by rfl,rfl⟩) hHeld ?_
      simp only [jP,jA,jB,jC,jD,jE,jF]
      refine tkH 20 hHeld ?_
      simp only [jP,jA,jB,jC,jD,jE,jF]
      refine tkH 21 hHeld ?_
      simp only [jP,jA,jB,jC,jD,jE,jF]
      refine wpAnyH_done (by kernel_rfl) ?_ _
      refine NoPanic.normal ?_
      have HNE:Hid (∀ y,n0≤y→y < u+1→s.D.B y=true→¬ Over (bnd n0 L) s y∧¬ Under (bnd n0 L) s y):=fun y h1 h2 h4=>by
       by_cases e:y=u
       ·rw [e];exact ⟨fun h=>hc1 (HOV.out.2 h),fun h=>hc2 (HUN.out.2 h).1⟩
       ·exact hNO.out y h1 (by omega) h4
      clear hc1 hc2
      go_wp2_with fail
      go_roundw
      case rel=>exact ⟨u+1,by go_num,by omega,by omega,Ext.trans hxr (Ext.trans (Ext.trans b2 b3) XE),HNE.out⟩
      case measure=>simp [intOf] <;> omega
  ·obtain rfl:u=N:=by omega
   have hd:decide ((u:Int) < (u:Int))=false:=decide_eq_false (by omega)
   go_wp2_with fail
   exact hR.out _ _ (Gives.mk hxr (.inr ⟨rfl,HE.out hNO.out⟩))
open Go.RowKit Go.Att

def outV (n:Int) (l:TL):Bool:=l.any fun t=>decide (t.1 < 0) || decide (n≤t.1)
def chkS (n:Int) (L:List AT):Int:=if 400 < n∨2000 < L.length then 2 else if n < 0 then 4 else if L.any (fun a=>(chk a.2 != 0) || outV n a.1.1)=true then 4 else 0
set_option linter.unusedSimpArgs false in
set_option maxHeartbeats 4000000 in
set_option maxRecDepth 100000 in
theorem check21c_any {w:World} {v:Value} {t:Int × Rat} {b:Nat} {n:Int} (hv:OwnTm 115 w v t) (hn:w.cell? ⟨b,0,none⟩=some (.int .i64 n)):
  Calls Tryz.prog 30 #[v,.pointer (some ⟨b,0,none⟩)] w (Gives w fun v' _=>v'=.bool (decide (t.1 < 0) || decide (n≤t.1))):=by
 refine via fun R hR=>?_
 obtain ⟨x,y,z,rfl,-⟩:=hv
 obtain ⟨w1,hw1,b1,c1,-,-⟩:=bx1 w [.int .i64 t.1,x,y,z] 68
 have HW:=Lib.hid hw1
 have C1:=Lib.hid c1
 have hn1:=Ext.cell b1 hn
 clear hw1 c1 hn
 go_enter Tryz.func30,Tryz.ntmps30
 go_upto_region 1 with (fail)
 rw [← HW.out]
 clear HW
 have k0:=C1.out.c1
 generalize t.1=q at*
 by_cases h1:q < 0
 ·have hd:decide (q < 0)=true:=decide_eq_true h1
  rw [hd] at hR
  clear h1
  go_wp2_with fail
  exact hR.out _ _ (Gives.mk b1 rfl)
 ·have hd:decide (q < 0)=false:=decide_eq_false h1
  rw [hd] at hR
  clear h1
  go_wp2_with fail
  exact hR.out _ _ (Gives.mk b1 rfl)
theorem any_take {n:Int} {l:TL} {j:Nat} (h:j < l.length):outV n (l.take (j+1))=(outV n (l.take j) || (decide ((gt l j).1 < 0) || decide (n≤(gt l j).1))):=by
 unfold outV
 rw [← List.take_append_getElem h,List.any_append,gt_lt h]
 simp
theorem outV_take {n:Int} {l:TL} {j:Nat} (h:outV n (l.take j)=true):outV n l=true:=by
 unfold outV at*
 rw [List.any_eq_true] at*
 obtain ⟨t,ht,h⟩:=h
 exact ⟨t,List.mem_of_mem_take ht,h⟩
set_option linter.unusedSimpArgs false in
set_option maxHeartbeats 4000000 in
set_option maxRecDepth 100000 in
theorem cont21_any {w:World} {v:Value} {l:TL} {b:Nat} {n:Int} (hv:RdRow 4 (OwnTm 115) w v l) (hl:l.length≤100000) (hn:w.cell? ⟨b,0,none⟩=some (.int .i64 n)):
  Calls Tryz.prog 51 #[v,.func (.func 30) #[] #[.pointer (some ⟨b,0,none⟩)]] w (Gives w fun v' _=>∃ z:Int,v'=.int .i64 z∧(0≤z↔outV n l=true)):=by
 refine via fun R hR=>?_
 have HV:=Lib.hid hv
 obtain ⟨a,k,rfl,hlk,hkm⟩:=hv.shape
 clear hv
 go_enter Tryz.func51,Tryz.ntmps51
 go_wp2_with fail
 go_loopw [8] (fun t wr=>∃ j:Nat,t=.int .i64 j∧j≤l.length∧Ext w wr∧Hid (outV n (l.take j)=false)) (fun t _=>l.length - (intOf t).toNat)
 case atStart=>exact ⟨0,rfl,Nat.zero_le _,Ext.refl _,by rw [List.take_zero];rfl⟩
 case round=>
  obtain ⟨j,rfl,hj,hxr,hO⟩:=hrel
  by_cases hjl:j < l.length
  ·have hd:decide ((j:Int) < (l.length:Int))=true:=decide_eq_true (by omega)
   have HJ1:IntKind.i64.wrap ((j:Int)+1)=((j+1:Nat):Int):=by rw [IntKind.wrap_i64];omega
   have hJ2:(0:Int)≤(j:Int)∧(j:Int) < (l.length:Int):=⟨by omega,by omega⟩
   obtain ⟨b1,o1,cs,he,hcl,hT,hc⟩:=HV.out.at (by decide) j hjl
   obtain ⟨s,x,k1,m,y,k2,m2,rfl,hq⟩:=cells_T hT
   subst he
   have hB:Att.Bo wr b1 (o1+j*4) [.int .i64 l[j].1,.bool s,.slice x k1 m,.slice y k2 m2]:=fun i v hv=>by
    have:=hc i (by have:=(List.getElem?_eq_some_iff.1 hv).1;simpa using this)
    rw [hv] at this
    exact Ext.cell hxr this
   have u0:=hB 0 _ rfl
   have u1:=hB 1 _ rfl
   have u2:=hB 2 _ rfl
   have u3:=hB 3 _ rfl
   rw [Nat.add_zero] at u0
   have HTK:=Lib.hid (any_take (n:=n) hjl)
   rw [gt_lt hjl,hO.out,Bool.false_or] at HTK
   have HCL:Hid (Calls Tryz.prog 30 #[.agg #[.int .i64 l[j].1,.bool s,.slice x k1 m,.slice y k2 m2],.pointer (some ⟨b,0,none⟩)] wr (Gives wr fun v' _=>v'=.bool (decide (l[j].1 < 0) || decide (n≤l[j].1)))):=check21c_any (t:=l[j]) ⟨_,_,_,rfl,hq.ext hxr⟩ (Ext.cell hxr hn)
   clear hT hc hq hB
   generalize l[j].1=z at*
   generalize (decide (z < 0) || decide (n≤z))=bb at*
   go_wp2_with fail
   refine HCL.out.mono ?_
   rintro e w4 ⟨_,rfl,b4,rfl⟩
   cases bb with
   | true=>
    clear HCL u0 u1 u2 u3
    go_wp2_with fail
    exact hR.out _ _ (Gives.mk (Ext.trans hxr b4) ⟨j,rfl,fun _=>outV_take HTK.out,fun _=>by omega⟩)
   | false=>
    clear HCL u0 u1 u2 u3
    go_wp2_with fail
    go_roundw
    case rel=>exact ⟨j+1,by go_num,by omega,Ext.trans hxr b4,HTK.out⟩
    case measure=>simp [intOf] <;> omega
  ·obtain rfl:j=l.length:=by omega
   have hd:decide ((l.length:Int) < (l.length:Int))=false:=decide_eq_false (by omega)
   rw [List.take_length] at hO
   go_wp2_with fail
   exact hR.out _ _ (Gives.mk hxr ⟨-1,rfl,fun h=>absurd h (by decide),fun h=>by rw [hO.out] at h;cases h⟩)
set_option linter.unusedSimpArgs false in
set_option maxHeartbeats 4000000 in
theorem contf21_any {w:World} {v:Value} {l:TL} {b:Nat} {n:Int} (hv:RdRow 4 (OwnTm 115) w v l) (hl:l.length≤100000) (hn:w.cell? ⟨b,0,none⟩=some (.int .i64 n)):
  Calls Tryz.prog 29 #[v,.func (.func 30) #[] #[.pointer (some ⟨b,0,none⟩)]] w (Gives w fun v' _=>v'=.bool (outV n l)):=by
 refine via fun R hR=>?_
 have HC:=Lib.hid (cont21_any hv hl hn)
 obtain ⟨a,k,rfl,-,-⟩:=hv.shape
 clear hv hn
 go_enter Tryz.func29,Tryz.ntmps29
 go_wp2_with fail
 refine HC.out.mono ?_
 rintro e w1 ⟨_,rfl,b1,z,rfl,hz⟩
 cases ho:outV n l with
 | true=>
  have hd:decide (0≤z)=true:=decide_eq_true (hz.2 ho)
  rw [ho] at hR
  clear hz ho
  go_wp2_with fail
  exact hR.out _ _ (Gives.mk b1 rfl)
 | false=>
  have hd:decide (0≤z)=false:=decide_eq_false fun h=>by rw [hz.1 h] at ho;cases ho
  rw [ho] at hR
  clear hz ho
  go_wp2_with fail
  exact hR.out _ _ (Gives.mk b1 rfl)
def badA (n:Int) (a:AT):Bool:=(chk a.2 != 0) || outV n a.1.1
theorem chkS_bad {n:Int} {L:List AT} (h0:¬ (400 < n∨2000 < L.length)) (h1:¬ n < 0) {j:Nat} (hj:j < L.length) (h:badA n (gt L j)=true):chkS n L=4:=by
 unfold chkS
 rw [if_neg h0,if_neg h1,if_pos]
 rw [List.any_eq_true]
 exact ⟨gt L j,by rw [gt_lt hj];exact List.getElem_mem hj,h⟩
theorem chkS_good {n:Int} {L:List AT} (h0:¬ (400 < n∨2000 < L.length)) (h1:¬ n < 0) (h:∀ a∈L,badA n a=false):chkS n L=0:=by
 unfold chkS
 rw [if_neg h0,if_neg h1,if_neg]
 rw [List.any_eq_true]
 rintro ⟨a,ha,hb⟩
 have:=h a ha
 unfold badA at this
 rw [this] at hb
 cases hb
set_option linter.unusedSimpArgs false in
set_option maxHeartbeats 8000000 in
set_option maxRecDepth 100000 in
theorem scheck21_any {w:World} {v:Value} {L:List AT} {n:Int} (hv:RdRow 5 OwnA w v L) (ht:∀ a∈L,a.1.1.length≤100000):
  Calls Tryz.prog 9 #[.int .i64 n,v] w (Gives w fun v' _=>v'=.int .i64 (chkS n L)):=by
 refine via fun R hR=>?_
 have HV:=Lib.hid hv
 have HT:=Lib.hid ht
 obtain ⟨a,k,rfl,hlk,hkm⟩:=hv.shape
 clear hv ht
 unfold maxLen at hkm
 have hmf:∀ (fn:Fn) (first cap:Array Value) (w:World),(Instr.makeFunc fn first cap).run Tryz.prog w=.ok (.func fn first cap) w:=fun _ _ _ _=>rfl
 obtain ⟨w1,hw1,b1,c1,-,-⟩:=bx1 w [.int .i64 n] 3
 have HW:=Lib.hid hw1
 have C1:=Lib.hid c1
 clear hw1 c1
 go_enter Tryz.func9,Tryz.ntmps9
 go_upto_region 1 with (fail)
 rw [← HW.out]
 clear HW
 have k0:=C1.out.c1
 by_cases h400:400 < n
 ·have hd:decide (400 < n)=true:=decide_eq_true h400
  have HE:Hid (chkS n L=2):=if_pos (.inl h400)
  clear h400
  go_wp2_with fail
  exact hR.out _ _ (Gives.mk b1 (by first | (rw [HE.out];done) | (rw [HE.out];rfl)))
 ·have hd:decide (400 < n)=false:=decide_eq_false h400
  by_cases h2000:2000 < L.length
  ·have hd2:decide ((2000:Int) < (L.length:Int))=true:=decide_eq_true (by omega)
   have HE:Hid (chkS n L=2):=if_pos (.inr h2000)
   clear h400
   go_wp2_with fail
   exact hR.out _ _ (Gives.mk b1 (by first | (rw [HE.out];done) | (rw [HE.out];rfl)))
  ·have hd2:decide ((2000:Int) < (L.length:Int))=false:=decide_eq_false (by omega)
   by_cases hneg:n < 0
   ·have hd3:decide (n < 0)=true:=decide_eq_true hneg
    have HE:Hid (chkS n L=4):=by show _=_;unfold chkS;rw [if_neg (by omega),if_pos hneg]
    clear hneg
    go_wp2_with fail
    exact hR.out _ _ (Gives.mk b1 (by first | (rw [HE.out];done) | (rw [HE.out];rfl)))
   ·have hd3:decide (n < 0)=false:=decide_eq_false hneg
    have HBAD:Hid (∀ j,j < L.length→badA n (gt L j)=true→chkS n L=4):=fun j hj h=>chkS_bad (by omega) hneg hj h
    have HGOOD:Hid ((∀ a∈L,badA n a=false)→chkS n L=0):=chkS_good (by omega) hneg
    clear hneg
    go_wp2_with fail
    clear k0
    go_loopw [18] (fun t wr=>∃ j:Nat,t=.int .i64 j∧j≤L.length∧Ext w1 wr∧Hid (∀ a∈L.take j,badA n a=false)) (fun t _=>L.length - (intOf t).toNat)
    case atStart=>exact ⟨0,rfl,Nat.zero_le _,Ext.refl _,fun a ha=>by rw [List.take_zero] at ha;cases ha⟩
    case round=>
     obtain ⟨j,rfl,hj,hx,hO⟩:=hrel
     by_cases hjl:j < L.length
     ·have hd4:decide ((j:Int) < (L.length:Int))=true:=decide_eq_true (by omega)
      have HJ1:IntKind.i64.wrap ((j:Int)+1)=((j+1:Nat):Int):=by rw [IntKind.wrap_i64];omega
      have hJ2:(0:Int)≤(j:Int)∧(j:Int) < (L.length:Int):=⟨by omega,by omega⟩
      obtain ⟨bA,oA,xa,xk,xs,xb,xm,xd,xb',xm',xd',hae,hbo,hax⟩:=HV.out.atm j hjl
      subst hae
      have x1:=Ext.trans b1 hx
      obtain ⟨u0,u1,u2,u3,u4⟩:=(hbo.ext x1).c5
      obtain ⟨w4,hw4,b4,c4,-,-⟩:=bx1 wr [.slice xa L[j].1.1.length xk,.bool xs,.slice xb xm xd,.slice xb' xm' xd',.int .i64 L[j].2] 55
      have HW:=Lib.hid hw4
      have C4:=Lib.hid c4
      have HAX:Hid (OwnA w4 (.agg #[.slice xa L[j].1.1.length xk,.bool xs,.slice xb xm xd,.slice xb' xm' xd',.int .i64 L[j].2]) L[j]):=⟨_,_,_,_,rfl,hax.ext (Ext.trans x1 b4)⟩
      have HCK:=Lib.hid (check9_any HAX.out)
      have HRT:Hid (RdRow 4 (OwnTm 115) w4 (.slice xa L[j].1.1.length xk) L[j].1.1):=by
       obtain ⟨s',x',y',z',he,h1,-⟩:=hax.ext (Ext.trans x1 b4)
       simp only [Value.agg.injEq,Array.mk.injEq,List.cons.injEq,and_true] at he
       obtain ⟨rfl,-,-,-⟩:=he
       exact h1.rd
      have HLT:Hid (L[j].1.1.length≤100000):=HT.out _ (List.getElem_mem hjl)
      have HCN:Hid (∀ w',Ext w4 w'→Calls Tryz.prog 29 #[.slice xa L[j].1.1.length xk,.func (.func 30) #[] #[.pointer (some ⟨w.heap.size,0,none⟩)]] w' (Gives w' fun v' _=>v'=.bool (outV n L[j].1.1))):=fun w' X=>
       contf21_any (HRT.out.ext OwnTm.ext X) HLT.out ((C1.out.ext (Ext.trans hx (Ext.trans b4 X))).c1)
      have HBD:Hid (badA n L[j]=((chk L[j].2 != 0) || outV n L[j].1.1)):=rfl
      have HB4:Hid (badA n L[j]=true→chkS n L=4):=fun h=>HBAD.out j hjl (by rw [gt_lt hjl];exact h)
      have HTK:Hid (badA n L[j]=false→∀ a∈L.take (j+1),badA n a=false):=fun h a ha=>by
       rw [← List.take_append_getElem hjl] at ha
       rcases List.mem_append.1 ha with ha | ha
       ·exact hO.out a ha
       ·rw [List.mem_singleton.1 ha];exact h
      rw [HBD.out] at HB4 HTK
      clear hbo hax hw4 c4 HAX HRT HLT HBD
      generalize outV n L[j].1.1=ov at*
      generalize L[j].1.1.length=ln at*
      generalize L[j].2=op at*
      generalize chk op=ck at*
      go_upto_region 8 with (fail)
      rw [← HW.out]
      clear HW u0 u1 u2 u3 u4
      obtain ⟨k0,k1,k2,k3,k4⟩:=C4.out.c5
      go_wp2_with fail
      refine HCK.out.mono ?_
      rintro e w5 ⟨_,rfl,b5,rfl⟩
      clear k0 k1 k2 k3 k4 HCK
      have k0:=(C4.out.ext b5).c5.1
      by_cases hck:ck=0
      ·have e1:(ck != 0)=false:=bneF hck
       rw [e1,Bool.false_or] at HB4 HTK
       clear hck
       go_wp2_with fail
       refine (HCN.out _ b5).mono ?_
       rintro e w6 ⟨_,rfl,b6,rfl⟩
       cases ov with
       | true=>
        go_wp2_with fail
        exact hR.out _ _ (Gives.mk (Ext.trans x1 (Ext.trans b4 (Ext.trans b5 b6))) (by first | (rw [HB4.out (by simp)];done) | (rw [HB4.out (by simp)];rfl)))
       | false=>
        go_wp2_with fail
        go_roundw
        case rel=>exact ⟨j+1,by go_num,by omega,Ext.trans hx (Ext.trans b4 (Ext.trans b5 b6)),HTK.out (by simp)⟩
        case measure=>simp [intOf] <;> omega
      ·have e1:(ck != 0)=true:=bneT hck
       rw [e1,Bool.true_or] at HB4
       clear hck
       go_wp2_with fail
       exact hR.out _ _ (Gives.mk (Ext.trans x1 (Ext.trans b4 b5)) (by first | (rw [HB4.out (by simp)];done) | (rw [HB4.out (by simp)];rfl)))
     ·obtain rfl:j=L.length:=by omega
      have hd4:decide ((L.length:Int) < (L.length:Int))=false:=decide_eq_false (by omega)
      rw [List.take_length] at hO
      go_wp2_with fail
      exact hR.out _ _ (Gives.mk (Ext.trans b1 hx) (by first | (rw [HGOOD.out hO.out];done) | (rw [HGOOD.out hO.out];rfl)))
end Go.Proofs.YthpaifdfafjlcaaGreat
