/- (*simplex.table).why -/
import Derived.Test.YthpaifdfafjlcaaGreatSq
import Derived.Test.YthpaifdfafjlcaaGreatTabAll
import Derived.Test.YthpaifdfafjlcaaGreatRatAll
namespace Go.Proofs.YthpaifdfafjlcaaGreat
open Go.RowKit Go.Att Go.Sx

theorem etQR:ElemT Tryz.prog 33 49 (.agg #[.bool false,.slice none 0 0,.slice none 0 0]) 3 56:=ElemT.mk' Tryz.underlying33 (by kernel_rfl) rfl (by decide)
def whyF (n0:Nat) (s:Stand) (v:Nat) (sg:Rat) (j i:Nat):Rat:=if n0+i < j∧s.D.A v (n0+i)≠0 then -(sg*s.D.A v (n0+i)) else if n0+i=v then sg else 0
theorem why_end {n0:Nat} {L:List AT} {s:Stand} {v:Nat} {g:Bool} (hz:s.D.A v v=0):tab L.length (whyF n0 s v (if g=true then 1 else -1) (n0+L.length))=tims n0 L s v g:=by
 refine tab_congr fun i hi=>?_
 unfold whyF tim
 by_cases h:s.D.A v (n0+i)=0
 ·rw [if_neg fun h2=>h2.2 h,h]
  by_cases e:n0+i=v
  ·rw [if_pos e,if_pos e];grind
  ·rw [if_neg e,if_neg e];grind
 ·have hv:n0+i≠v:=fun e=>h (by rw [e];exact hz)
  rw [if_pos ⟨by omega,h⟩,if_neg hv];grind
theorem why_zero (n0:Nat) (s:Stand) (v:Nat) (sg:Rat) (M:Nat) (hv:n0≤v):(tab M fun _=>(0:Rat)).set (v - n0) sg=tab M (whyF n0 s v sg 0):=by
 rw [tab_set]
 refine tab_congr fun i _=>?_
 unfold whyF
 by_cases e:i=v - n0
 ·rw [if_pos e];simp [show n0+i=v by omega]
 ·rw [if_neg e];simp [show ¬ n0+i=v by omega]
theorem why_rest {n0:Nat} {s:Stand} {v:Nat} {sg:Rat} {i j:Nat} (e:n0+i≠j):whyF n0 s v sg j i=whyF n0 s v sg (j+1) i:=by
 unfold whyF
 have:(n0+i < j∧s.D.A v (n0+i)≠0)↔(n0+i < j+1∧s.D.A v (n0+i)≠0):=by
  constructor <;> rintro ⟨a,b⟩ <;> exact ⟨by omega,b⟩
 simp only [this]
theorem why_set {n0:Nat} {s:Stand} {v:Nat} {sg:Rat} {M j:Nat} (h0:n0≤j) (hA:s.D.A v j≠0):(tab M (whyF n0 s v sg j)).set (j - n0) (-(sg*s.D.A v j))=tab M (whyF n0 s v sg (j+1)):=by
 rw [tab_set]
 refine tab_congr fun i _=>?_
 by_cases e:i=j - n0
 ·have e2:n0+i=j:=by omega
  rw [if_pos e]
  unfold whyF
  rw [e2,if_pos ⟨Nat.lt_succ_self _,hA⟩]
 ·rw [if_neg e,why_rest (by omega)]
theorem why_same {n0:Nat} {s:Stand} {v:Nat} {sg:Rat} {M j:Nat} (h:j < n0∨s.D.A v j=0):tab M (whyF n0 s v sg j)=tab M (whyF n0 s v sg (j+1)):=by
 refine tab_congr fun i _=>?_
 by_cases e:n0+i=j
 ·have h1:s.D.A v j=0:=by
   rcases h with h | h
   ·omega
   ·exact h
  unfold whyF
  rw [e]
  simp [h1]
 ·exact why_rest e
theorem OwnQ.neg {e:TypeId} {B:Nat} {w:World} {x n d:Value} {q:Rat} (h:OwnQ e B w (.agg #[x,n,d]) q):OwnQ e B w (.agg #[.bool (decide ((-q).num < 0)),n,d]) (-q):=by
 obtain ⟨n',d',he,h1,h2⟩:=h
 simp only [Value.agg.injEq,Array.mk.injEq,List.cons.injEq,and_true] at he
 obtain ⟨-,rfl,rfl⟩:=he
 exact ⟨_,_,rfl,by rw [Rat.neg_num,Int.natAbs_neg];exact h1,h2⟩
theorem rneg_own {w:World} {B:Nat} {v:Value} {q:Rat} (h:OwnQ 115 B w v q):Calls Tryz.prog 56 #[v] w (Gives w fun v' w'=>OwnQ 115 0 w' v' (-q)):=by
 obtain ⟨s,a,l,c,a',l',c',rfl,O⟩:=h.op
 exact (rneg_val h.rd).mono fun _ _ ⟨v,e,b,o⟩=>⟨v,e,b,o ▸ ((OwnQ.neg O.out).ext b).mono (Nat.zero_le _)⟩
theorem rep_tab (M:Nat) (q:Rat):List.replicate M q=tab M fun _=>q:=by
 refine List.ext_getElem (by rw [List.length_replicate,tab_len]) fun i h1 h2=>?_
 rw [List.getElem_replicate,tab_get]
set_option linter.unusedSimpArgs false in
set_option maxHeartbeats 8000000 in
set_option maxRecDepth 100000 in
theorem why_any {w:World} {bt n0:Nat} {L:List AT} {s:Stand} {bas:Nat→Nat} {row:Nat→Int} {al ab ar aa av ah:Option Addr} {kl kb kr ka kv kh:Nat} (h:TabR w bt n0 L (fun i=>s.D.A (bas i)) s.a s.b bas row al ab ar aa av ah kl kb kr ka kv kh)
  (hx:Ix n0 L.length s bas row) (hok:s.Ok (bnd n0 L)) (hn:n0+L.length≤100000) {v:Nat} {g:Bool} (hv0:n0≤v) (hv:v < n0+L.length) (bv:s.D.B v=true) (sA:∀ j,j < n0+L.length→Sz 100 (s.D.A v j)):
  Calls Tryz.prog 38 #[.pointer (some ⟨bt,0,none⟩),.int .i64 v,.bool g] w (Gives w fun v' w'=>OwnRow 3 (OwnQp 115) 49 w.heap.size w' v' (tims n0 L s v g)):=by
 refine via fun R hR=>?_
 rw [← why_end (hok.1 v hv bv v hv bv)] at hR
 obtain ⟨N,hN⟩:∃ N,n0+L.length=N:=⟨_,rfl⟩
 obtain ⟨M,hM⟩:∃ M,L.length=M:=⟨_,rfl⟩
 have H:=Lib.hid h
 have C1:=Lib.hid (h.cells hN)
 obtain ⟨hr1,hr2⟩:=hx.rw2 v hv bv
 have hr0:=(hx.rw1 v hv).2.1 bv
 obtain ⟨i,hi⟩:∃ i:Nat,row v=i:=⟨(row v).toNat,by omega⟩
 have hri:(row v).toNat=i:=by rw [hi];rfl
 rw [hri] at hr1 hr2
 rw [hN] at hv hn sA hR
 obtain ⟨br,or,rfl,hbr⟩:=h.row_at hN hv
 obtain ⟨ba,oa,x,k,rfl,hba,hra⟩:=h.a_at hN hr1
 rw [hi] at hbr
 rw [hr2] at hra
 have C2:=Lib.hid hbr
 have C3:=Lib.hid hba
 have RA:=Lib.hid hra
 have SA:=Lib.hid sA
 rw [hM] at C1 hr1 hR
 have hV2:(0:Int)≤(v:Int)∧(v:Int) < (N:Int):=⟨by omega,by omega⟩
 have hI2:(0:Int)≤(i:Int)∧(i:Int) < (M:Int):=⟨by omega,by omega⟩
 have hW1:IntKind.i64.wrap ((v:Int) - (n0:Int))=((v - n0:Nat):Int):=by rw [IntKind.wrap_i64];omega
 have hW2:(0:Int)≤((v - n0:Nat):Int)∧((v - n0:Nat):Int) < (M:Int):=⟨by omega,by omega⟩
 have hNM:N=n0+M:=by omega
 have HNM:=Lib.hid hNM
 have hv0':v - n0 < M:=by omega
 have hMb:M≤100000:=by omega
 have HW0:Hid (∀ sg,(tab M fun _=>(0:Rat)).set (v - n0) sg=tab M (whyF n0 s v sg 0)):=fun sg=>why_zero n0 s v sg M hv0
 generalize v - n0=q0 at*
 clear h hx hbr hba hra hr0 hri hr2 bv hok hN hi hM sA hNM
 go_enter Tryz.func38,Tryz.ntmps38
 obtain ⟨-,k1,-,-,-,-,-⟩:=C1.out.c7
 go_wp2_with (at_make;refine make_full etQR rfl _ _ rfl _ _ M rfl rfl (by omega) (by unfold maxLen;omega) ?_;intro w1 o1 b1)
 have O1:Hid (OwnRow 3 (OwnQp 115) 49 w.heap.size w1 (.slice (some ⟨w.heap.size,0,none⟩) M M) (tab M fun _=>0)):=by
  have:=made_row (T:=OwnQp 115) (q:=0) rfl (by decide) (ownq_nil _ _) o1
  rw [rep_tab] at this
  exact this
 have HSZ:Hid (w.heap.size < w1.heap.size):=by
  obtain ⟨g,h1,-,-,h2⟩:=O1.out.base (by rw [tab_len];omega) (by decide)
  simp only [Option.some.injEq,Addr.mk.injEq,and_true] at h1
  exact h1 ▸ h2.lt
 clear o1 k1
 have HI1:Hid (∀ w,Calls Tryz.prog 20 #[.int .i64 1] w (Gives w fun v' w'=>OwnQ 115 0 w' v' 1)):=fun w=>by
  have h:=rint_any (w:=w) (u:=1) (by omega)
  have e:((1:Int):Rat)=1:=by decide +kernel
  rw [e] at h
  exact h.mono fun _ _ ⟨v,e,b,o⟩=>⟨v,e,b,o.mono (Nat.zero_le _)⟩
 have HI2:Hid (∀ w,Calls Tryz.prog 20 #[.int .i64 (-1)] w (Gives w fun v' w'=>OwnQ 115 0 w' v' (-1))):=fun w=>by
  have h:=rint_any (w:=w) (u := -1) (by omega)
  have e:((-1:Int):Rat) = -1:=by decide +kernel
  rw [e] at h
  exact h.mono fun _ _ ⟨v,e,b,o⟩=>⟨v,e,b,o.mono (Nat.zero_le _)⟩
 refine (HI1.out _).mono ?_
 rintro e w2 ⟨_,rfl,b2,o2⟩
 obtain ⟨s8,a8,l8,c8,a9,l9,c9,rfl,O2⟩:=o2.op
 clear o2
 obtain ⟨w3,hw3,b3,hC3⟩:∃ W,W=w2.alloc (.cells #[.bool s8,.slice a8 l8 c8,.slice a9 l9 c9] 49)∧Ext w2 W∧Bq 115 49 W w2.heap.size 1:=⟨_,rfl,Ext.alloc _ _,Bq.new O2.out⟩
 have HW:=Lib.hid hw3
 have HE2:Hid (w.heap.size < w2.heap.size):=Nat.lt_of_lt_of_le HSZ.out (Below.size b2)
 clear hw3 O2 HSZ
 go_upto_if 19 with (fail)
 rw [← HW.out]
 clear HW
 go_cut [8] (fun s8 wx=>∃ E,s8=.pointer (some ⟨E,0,none⟩)∧w.heap.size < E∧Ext w1 wx∧Hid (Bq 115 49 wx E (if g=true then 1 else -1)))
 case first=>
  as_aux_lemma=>
   cases g with
   | true=>
    go_wp2_with fail
    go_meet
    exact ⟨_,rfl,HE2.out,Ext.trans b2 b3,hC3⟩
   | false=>
    go_wp2_with fail
    refine (HI2.out _).mono ?_
    rintro e w4 ⟨_,rfl,b4,o4⟩
    obtain ⟨s4,a4,l4,c4,a5,l5,c5,rfl,O4⟩:=o4.op
    clear o4
    obtain ⟨_,_,_,j0,j1,j2,i0,i1,i2⟩:=(hC3.rt.ext b4).rm.c3
    go_wp2_with fail
    go_meet
    exact ⟨_,rfl,HE2.out,putL_below (by have:=Below.size b2;omega) [_,_,_] 0 (Ext.trans b2 (Ext.trans b3 b4)),Bq.set (hC3.rt.ext b4) (by decide) O4.out⟩
 case rest=>
  as_aux_lemma=>
   clear hC3 HI1 HI2 HE2 b3 b2
   obtain ⟨E,rfl,hE,b4,hC4⟩:=hcut
   have SSG:Hid (Sz 2 (if g=true then (1:Rat) else -1)):=by
    show Sz _ _
    split
    ·exact (Sz.int 1 (by omega))
    ·exact (Sz.int (-1) (by omega))
   generalize (if g=true then (1:Rat) else -1)=sg at*
   obtain ⟨w4,hw4⟩:∃ w0:World,w0=wc:=⟨_,rfl⟩
   subst hw4
   obtain ⟨rs,ra,rl,rk,ra',rl',rk',CE,-,QE⟩:=hC4.out.op
   have x04:Ext w w4:=Ext.trans b1 b4
   have O4:=Lib.hid (O1.out.ext OwnQ.ext b4)
   have D4:=Lib.hid (C1.out.ext x04)
   obtain ⟨g4,hg4,-,-,hrt⟩:=O4.out.base (by rw [tab_len];omega) (by decide)
   simp only [Option.some.injEq,Addr.mk.injEq,and_true] at hg4
   subst hg4
   have RT:=Lib.hid hrt
   have HW0:=Lib.hid (HW0.out sg)
   clear hC4 hrt O1
   go_upto_region 5 with (fail)
   go_cut [7] (fun s7 wx=>s7=.slice (some ⟨w.heap.size,0,none⟩) M M∧Ext w wx∧Hid (Bx wx E [.bool rs,.slice ra rl rk,.slice ra' rl' rk'])∧Hid (OwnQ 115 0 wx (.agg #[.bool rs,.slice ra rl rk,.slice ra' rl' rk']) sg)∧Hid (OwnRow 3 (OwnQp 115) 49 w.heap.size wx (.slice (some ⟨w.heap.size,0,none⟩) M M) (tab M (whyF n0 s v sg 0))))
   case first=>
    as_aux_lemma=>
     have b5:=drew_ext w4
     have XE:=b5
     refine wp_region_noPanic ?_
     refine wp_region_last_drew (st:=9) (S:=fun w'=>(w'.cell? ⟨bt,0,none⟩=some (.int .i64 n0)∧w'.cell? ⟨bt,1,none⟩=some (.slice al M kl)∧w'.cell? ⟨bt,2,none⟩=some (.slice ab M kb)∧w'.cell? ⟨bt,3,none⟩=some (.slice (some ⟨br,or,none⟩) N kr)∧w'.cell? ⟨bt,4,none⟩=some (.slice (some ⟨ba,oa,none⟩) M ka)∧w'.cell? ⟨bt,5,none⟩=some (.slice av N kv)∧w'.cell? ⟨bt,6,none⟩=some (.slice ah M kh))∧(w'.cell? ⟨E,0,none⟩=some (.bool rs)∧w'.cell? ⟨E,1,none⟩=some (.slice ra rl rk)∧w'.cell? ⟨E,2,none⟩=some (.slice ra' rl' rk'))) (by kernel_rfl) (⟨(D4.out.ext XE).c7,(CE.out.ext XE).c3⟩) (fun hHeld=>?_)
     refine tkL 0 hHeld ?_
     simp only [jP,jA,jB,jC,jD,jE,jF]
     refine tkL 1 hHeld ?_
     simp only [jP,jA,jB,jC,jD,jE,jF]
     refine tkL 2 hHeld ?_
     simp only [jP,jA,jB,jC,jD,jE,jF]
     refine tkL 3 hHeld ?_
     simp only [jP,jA,jB,jC,jD,jE,jF]
     refine tkL 4 hHeld ?_
     simp only [jP,jA,jB,jC,jD,jE,jF]
     refine tkL 5 hHeld ?_
     simp only [jP,jA,jB,jC,jD,jE,jF]
     refine tkL 6 hHeld ?_
     simp only [jP,jA,jB,jC,jD,jE,jF]
     refine tkL 7 hHeld ?_
     simp only [jP,jA,jB,jC,jD,jE,jF]
     refine tkL 8 hHeld ?_
     simp only [jP,jA,jB,jC,jD,jE,jF]
     obtain ⟨_,_,_,j0,j1,j2,i0,i1,i2⟩:=RT.out.may3 (q0*3) (by omega)
     refine wpAnyL_ready (rs:=[9]) (by kernel_rfl) (by simp) ?_
     refine AllReadyL.last (o:=_) rfl (fun K hK=>?_)
     go_simp
     refine hK.out _ _ ?_
     clear hK K
     try simp only [jP,jA,jB,jC,jD,jE,jF]
     refine wpAnyL_done (by kernel_rfl) ?_ _
     refine NoPanic.normal ?_
     go_wp2_with fail
     go_meet
     refine ⟨rfl,putL_below (Nat.le_refl _) [_,_,_] (q0*3) (Ext.trans x04 XE),(CE.out.ext XE).putL (Nat.ne_of_gt hE) (q0*3) [_,_,_],(QE.out.ext XE).putT (RT.out.ext XE) (by decide) (q0*3) [_,_,_],?_⟩
     rw [← HW0.out]
     exact (O4.out.ext OwnQ.ext XE).setL q0 (by rw [tab_len];exact hv0') (cs:=[_,_,_]) rfl (fun v b h=>OwnQ.putT h (RT.out.ext XE) (by decide) (q0*3) [_,_,_]) ((QE.out.ext XE).putT (RT.out.ext XE) (by decide) (q0*3) [_,_,_])
   case rest=>
    as_aux_lemma=>
     obtain ⟨rfl,x05,hC5,hQ5,hO5⟩:=hcut
     clear O4 D4 CE QE RT b4 b1 x04
     obtain ⟨w5,hw5⟩:∃ w0:World,w0=wc:=⟨_,rfl⟩
     subst hw5
     have D5:=Lib.hid (C1.out.ext x05)
     go_upto_region 6 with (fail)
     have b6:=drew_ext w5
     have XE:=b6
     refine wp_region_noPanic ?_
     refine wp_region_held_drew (S:=fun w'=>(w'.cell? ⟨bt,0,none⟩=some (.int .i64 n0)∧w'.cell? ⟨bt,1,none⟩=some (.slice al M kl)∧w'.cell? ⟨bt,2,none⟩=some (.slice ab M kb)∧w'.cell? ⟨bt,3,none⟩=some (.slice (some ⟨br,or,none⟩) N kr)∧w'.cell? ⟨bt,4,none⟩=some (.slice (some ⟨ba,oa,none⟩) M ka)∧w'.cell? ⟨bt,5,none⟩=some (.slice av N kv)∧w'.cell? ⟨bt,6,none⟩=some (.slice ah M kh))∧(w'.cell? ⟨br,or+v,none⟩=some (.int .i64 i))∧(w'.cell? ⟨ba,oa+i,none⟩=some (.slice x N k))) (by kernel_rfl) (⟨(D5.out.ext XE).c7,((C2.out.ext x05).ext XE).c1,((C3.out.ext x05).ext XE).c1⟩) (fun hHeld=>?_)
     refine tkH 0 hHeld ?_
     simp only [jP,jA,jB,jC,jD,jE,jF]
     refine tkH 1 hHeld ?_
     simp only [jP,jA,jB,jC,jD,jE,jF]
     refine tkH 2 hHeld ?_
     simp only [jP,jA,jB,jC,jD,jE,jF]
     refine tkH 3 hHeld ?_
     simp only [jP,jA,jB,jC,jD,jE,jF]
     refine tkH 4 hHeld ?_
     simp only [jP,jA,jB,jC,jD,jE,jF]
     refine tkH 5 hHeld ?_
     simp only [jP,jA,jB,jC,jD,jE,jF]
     refine tkH 6 hHeld ?_
     simp only [jP,jA,jB,jC,jD,jE,jF]
     refine tkH 7 hHeld ?_
     simp only [jP,jA,jB,jC,jD,jE,jF]
     refine tkH 8 hHeld ?_
     simp only [jP,jA,jB,jC,jD,jE,jF]
     refine tkH 9 hHeld ?_
     simp only [jP,jA,jB,jC,jD,jE,jF]
     refine tkH 10 hHeld ?_
     simp only [jP,jA,jB,jC,jD,jE,jF]
     refine tkH 11 hHeld ?_
     simp only [jP,jA,jB,jC,jD,jE,jF]
     refine tkH 12 hHeld ?_
     simp only [jP,jA,jB,jC,jD,jE,jF]
     refine tkH 13 hHeld ?_
     simp only [jP,jA,jB,jC,jD,jE,jF]
     refine tkH 14 hHeld ?_
     simp only [jP,jA,jB,jC,jD,jE,jF]
     refine wpAnyH_done (by kernel_rfl) ?_ _
     refine NoPanic.normal ?_
     clear hHeld
     go_wp2_with fail
     go_loopw [44] (fun t wr=>∃ j:Nat,t=.int .i64 j∧j≤N∧Ext w wr∧Hid (Bx wr E [.bool rs,.slice ra rl rk,.slice ra' rl' rk'])∧Hid (OwnQ 115 0 wr (.agg #[.bool rs,.slice ra rl rk,.slice ra' rl' rk']) sg)∧Hid (OwnRow 3 (OwnQp 115) 49 w.heap.size wr (.slice (some ⟨w.heap.size,0,none⟩) M M) (tab M (whyF n0 s v sg j)))) (fun t _=>N - (intOf t).toNat)
     case atStart=>exact ⟨0,rfl,Nat.zero_le _,Ext.trans x05 XE,hC5.out.ext XE,hQ5.out.ext XE,hO5.out.ext OwnQ.ext XE⟩
     case round=>
      clear XE b6 hC5 hQ5 hO5 D5 x05
      obtain ⟨j,rfl,hj,hxr,hC,hQ,hO⟩:=hrel
      by_cases hjl:j < N
      ·have hd:decide ((j:Int) < (N:Int))=true:=decide_eq_true (by omega)
       have HJ1:IntKind.i64.wrap ((j:Int)+1)=((j+1:Nat):Int):=by rw [IntKind.wrap_i64];omega
       have hJ2:(0:Int)≤(j:Int)∧(j:Int) < (N:Int):=⟨by omega,by omega⟩
       obtain ⟨bP,oP,ps,pa,pl,pk,pa',pl',pk',hpe,hpo,hpq⟩:=RA.out.oq j (by rw [tab_len];exact hjl)
       rw [tab_gt hjl] at hpq
       subst hpe
       obtain ⟨u0,u1,u2⟩:=(hpo.ext hxr).c3
       have HSM:=Lib.hid (why_same (n0:=n0) (s:=s) (v:=v) (sg:=sg) (M:=M) (j:=j))
       have HST:=Lib.hid (why_set (n0:=n0) (s:=s) (v:=v) (sg:=sg) (M:=M) (j:=j))
       have HSA:=Lib.hid (SA.out j hjl)
       have HQJ:=Lib.hid (hpq.ext hxr)
       have hz:(s.D.A v j).num.sign=0↔s.D.A v j=0:=num_sign_zero
       obtain ⟨w7,hw7,b7,c7,-,-⟩:=bx1 wr [.bool ps,.slice pa pl pk,.slice pa' pl' pk'] 49
       have HW:=Lib.hid hw7
       have C7:=Lib.hid c7
       have hE7:Hid (wr.heap.size≠w.heap.size):=by
        show _≠_
        obtain ⟨g4,hg4,-,-,h2⟩:=hO.out.base (by rw [tab_len];omega) (by decide)
        simp only [Option.some.injEq,Addr.mk.injEq,and_true] at hg4
        subst hg4
        have:=h2.lt
        omega
       have HQ7:=Lib.hid (HQJ.out.ext b7)
       clear hpo hpq hw7 c7 HQJ
       generalize s.D.A v j=q at*
       go_upto_region 9 with (fail)
       rw [← HW.out]
       clear HW u0 u1 u2
       have x7:=Ext.trans hxr b7
       have D7:=Lib.hid (C1.out.ext x7)
       obtain ⟨k0,-,-,-,-,-,-⟩:=D7.out.c7
       by_cases hj0:n0≤j
       ·have e1:decide ((n0:Int)≤(j:Int))=true:=decide_eq_true (by omega)
        have e2:decide (n0≤j)=true:=decide_eq_true hj0
        have HSG:Hid (Calls Tryz.prog 49 #[.agg #[.bool ps,.slice pa pl pk,.slice pa' pl' pk']] w7 (Gives w7 fun v' _=>v'=.int .i64 q.num.sign)):=rsign_any HQ7.out.rd
        obtain ⟨g0,g1,g2⟩:=C7.out.c3
        by_cases hq0:q=0
        ·have e3:q.num.sign=0:=num_sign_zero.2 hq0
         have HT:=Lib.hid (HSM.out (.inr hq0))
         rw [e3] at HSG
         clear hj0 hq0 e3 hz
         go_wp2_with fail
         refine HSG.out.mono ?_
         rintro e w8 ⟨_,rfl,b8,rfl⟩
         clear g0 g1 g2 k0
         go_wp2_with fail
         go_roundw
         case rel=>exact ⟨j+1,by go_num,by omega,Ext.trans x7 b8,(hC.out.ext b7).ext b8,(hQ.out.ext b7).ext b8,HT.out ▸ (hO.out.ext OwnQ.ext b7).ext OwnQ.ext b8⟩
         case measure=>simp [intOf] <;> omega
        ·have e3:(q.num.sign != 0)=true:=bneT fun h=>hq0 (num_sign_zero.1 h)
         have HT:=Lib.hid (HST.out hj0 hq0)
         have hj2:j - n0 < M:=by have:=HNM.out;omega
         have hW3:IntKind.i64.wrap ((j:Int) - (n0:Int))=((j - n0:Nat):Int):=by rw [IntKind.wrap_i64];omega
         have hW4:(0:Int)≤((j - n0:Nat):Int)∧((j - n0:Nat):Int) < (M:Int):=⟨by omega,by omega⟩
         generalize q.num.sign=sq at*
         clear hj0 hq0 hz
         generalize j - n0=q1 at*
         go_wp2_with fail
         refine HSG.out.mono ?_
         rintro e w8 ⟨_,rfl,b8,rfl⟩
         clear g0 g1 g2 k0 HSG
         have D8:=Lib.hid (D7.out.ext b8)
         have C8:=Lib.hid (C7.out.ext b8)
         have hC8:=Lib.hid ((hC.out.ext b7).ext b8)
         have hQ8:=Lib.hid ((hQ.out.ext b7).ext b8)
         have hO8:=Lib.hid ((hO.out.ext OwnQ.ext b7).ext OwnQ.ext b8)
         have HQ8:=Lib.hid (HQ7.out.ext b8)
         have x8:=Ext.trans x7 b8
         obtain ⟨g4,hg4,-,-,hrt⟩:=hO8.out.base (by rw [tab_len];omega) (by decide)
         simp only [Option.some.injEq,Addr.mk.injEq,and_true] at hg4
         subst hg4
         have RT:=Lib.hid hrt
         clear hrt hC hQ hO D7 C7 HQ7
         go_wp2_with fail
         have b9:=drew_ext w8
         have XE:=b9
         refine wp_region_noPanic ?_
         refine wp_region_last_drew (st:=12) (S:=fun w'=>(w'.cell? ⟨bt,0,none⟩=some (.int .i64 n0)∧w'.cell? ⟨bt,1,none⟩=some (.slice al M kl)∧w'.cell? ⟨bt,2,none⟩=some (.slice ab M kb)∧w'.cell? ⟨bt,3,none⟩=some (.slice (some ⟨br,or,none⟩) N kr)∧w'.cell? ⟨bt,4,none⟩=some (.slice (some ⟨ba,oa,none⟩) M ka)∧w'.cell? ⟨bt,5,none⟩=some (.slice av N kv)∧w'.cell? ⟨bt,6,none⟩=some (.slice ah M kh))∧(w'.cell? ⟨E,0,none⟩=some (.bool rs)∧w'.cell? ⟨E,1,none⟩=some (.slice ra rl rk)∧w'.cell? ⟨E,2,none⟩=some (.slice ra' rl' rk'))∧(w'.cell? ⟨wr.heap.size,0,none⟩=some (.bool ps)∧w'.cell? ⟨wr.heap.size,1,none⟩=some (.slice pa pl pk)∧w'.cell? ⟨wr.heap.size,2,none⟩=some (.slice pa' pl' pk'))) (by kernel_rfl) (⟨(D8.out.ext XE).c7,(hC8.out.ext XE).c3,(C8.out.ext XE).c3⟩) (fun hHeld=>?_)
         refine tkL 0 hHeld ?_
         simp only [jP,jA,jB,jC,jD,jE,jF]
         refine tkL 1 hHeld ?_
         simp only [jP,jA,jB,jC,jD,jE,jF]
         refine tkL 2 hHeld ?_
         simp only [jP,jA,jB,jC,jD,jE,jF]
         refine tkL 3 hHeld ?_
         simp only [jP,jA,jB,jC,jD,jE,jF]
         refine tkL 4 hHeld ?_
         simp only [jP,jA,jB,jC,jD,jE,jF]
         refine tkL 5 hHeld ?_
         simp only [jP,jA,jB,jC,jD,jE,jF]
         refine tkL 6 hHeld ?_
         simp only [jP,jA,jB,jC,jD,jE,jF]
         refine tkL 7 hHeld ?_
         simp only [jP,jA,jB,jC,jD,jE,jF]
         refine tkL 8 hHeld ?_
         simp only [jP,jA,jB,jC,jD,jE,jF]
         refine rdL 9 (by kernel_rfl) rfl (fun K hK=>?_)
         go_simp
         go_at_call 47;refine (rmul_any (hQ8.out.rd.ext XE) (HQ8.out.rd.ext XE) (SSG.out.le (by decide)) (HSA.out.le (by decide))).mono ?_;rintro e w10 ⟨v10,rfl,b10,o10⟩;have O10:=Lib.hid o10;clear o10;(first | have XE:=Ext.trans XE b10 | have XE:=Ext.trans (Ext.trans XE (Ext.alloc _ _)) b10);obtain ⟨s9,a10,l10,c10,a11,l11,c11,rfl,P10⟩:=O10.out.op
         go_wp2_with fail
         refine hK.out _ _ (⟨(D8.out.ext XE).c7,(hC8.out.ext XE).c3,(C8.out.ext XE).c3⟩) (fun hHeld=>?_)
         clear hK K
         try simp only [jP,jA,jB,jC,jD,jE,jF]
         refine rdL 10 (by kernel_rfl) rfl (fun K hK=>?_)
         go_simp
         go_at_call 56;refine (rneg_own P10.out).mono ?_;rintro e w11 ⟨v11,rfl,b11,o11⟩;have O11:=Lib.hid o11;clear o11;(first | have XE:=Ext.trans XE b11 | have XE:=Ext.trans (Ext.trans XE (Ext.alloc _ _)) b11);obtain ⟨s12,a12,l12,c12,a13,l13,c13,rfl,P11⟩:=O11.out.op
         go_wp2_with fail
         refine hK.out _ _ (⟨(D8.out.ext XE).c7,(hC8.out.ext XE).c3,(C8.out.ext XE).c3⟩) (fun hHeld=>?_)
         clear hK K
         try simp only [jP,jA,jB,jC,jD,jE,jF]
         refine tkL 11 hHeld ?_
         simp only [jP,jA,jB,jC,jD,jE,jF]
         obtain ⟨_,_,_,j0,j1,j2,i0,i1,i2⟩:=(RT.out.ext XE).may3 (q1*3) (by omega)
         refine wpAnyL_ready (rs:=[12]) (by kernel_rfl) (by simp) ?_
         refine AllReadyL.last (o:=_) rfl (fun K hK=>?_)
         go_simp
         refine hK.out _ _ ?_
         clear hK K
         try simp only [jP,jA,jB,jC,jD,jE,jF]
         refine wpAnyL_done (by kernel_rfl) ?_ _
         refine NoPanic.normal ?_
         go_wp2_with fail
         go_roundw
         case rel=>exact ⟨j+1,by go_num,by omega,putL_below (Nat.le_refl _) [_,_,_] (q1*3) (Ext.trans x8 XE),(hC8.out.ext XE).putL (Nat.ne_of_gt hE) (q1*3) [_,_,_],(hQ8.out.ext XE).putT (RT.out.ext XE) (by decide) (q1*3) [_,_,_],by
          rw [← HT.out]
          exact (hO8.out.ext OwnQ.ext XE).setL q1 (by rw [tab_len];exact hj2) (cs:=[_,_,_]) rfl (fun v b h=>OwnQ.putT h (RT.out.ext XE) (by decide) (q1*3) [_,_,_]) (P11.out.putT (RT.out.ext XE) (by decide) (q1*3) [_,_,_])⟩
         case measure=>simp [intOf] <;> omega
       ·have e1:decide ((n0:Int)≤(j:Int))=false:=decide_eq_false (by omega)
        have e2:decide (n0≤j)=false:=decide_eq_false hj0
        have HT:=Lib.hid (HSM.out (.inl (by omega)))
        clear hj0
        go_wp2_with fail
        go_roundw
        case rel=>exact ⟨j+1,by go_num,by omega,x7,hC.out.ext b7,hQ.out.ext b7,HT.out ▸ hO.out.ext OwnQ.ext b7⟩
        case measure=>simp [intOf] <;> omega
      ·obtain rfl:j=N:=by omega
       have hd:decide ((j:Int) < (j:Int))=false:=decide_eq_false (by omega)
       go_wp2_with fail
       exact hR.out _ _ (Gives.mk hxr hO.out)
end Go.Proofs.YthpaifdfafjlcaaGreat
