/- attestlaw17.ones -/
import Derived.Test.YtnbbhpihlcglgaaSq
import Derived.Test.YtnbbhpihlcglgaaPOnes15
namespace Go.Att
open Go.RowKit
def OwnNPp (e:TypeId) (w:World) (v:Value) (p:NN × NN):Prop:=∃ x0 x1 x2 x3 x4 x5,v=.agg #[x0,x1,x2,x3,x4,x5]∧OwnN e w (.agg #[x0,x1,x2]) p.1∧OwnN e w (.agg #[x3,x4,x5]) p.2
theorem OwnNPp.ext {e:TypeId} {w w':World} {v:Value} {p:NN × NN} (h:OwnNPp e w v p) (x:Ext w w'):OwnNPp e w' v p:=by
 obtain ⟨_,_,_,_,_,_,rfl,h1,h2⟩:=h
 exact ⟨_,_,_,_,_,_,rfl,h1.ext x,h2.ext x⟩
theorem OwnNPp.rd {e:TypeId} {w:World} {v:Value} {p:NN × NN} (h:OwnNPp e w v p):RdNDp w v p:=by
 obtain ⟨_,_,_,_,_,_,rfl,h1,h2⟩:=h
 exact ⟨_,_,_,_,_,_,rfl,h1.rd,h2.rd⟩
theorem kdNP {e e':TypeId} (hne:e≠e'):Kd e' (OwnNPp e):=⟨fun h X=>h.ext X,fun h hr hg=>by
 obtain ⟨_,_,_,_,_,_,rfl,h1,h2⟩:=h
 exact ⟨_,_,_,_,_,_,rfl,h1.grown hr hne hg,h2.grown hr hne hg⟩,fun {w cs p} h u hu=>by
 obtain ⟨x0,x1,x2,x3,x4,x5,he,h1,h2⟩:=h
 obtain ⟨a,l,c,a',l',c',e1,-⟩:=h1.op
 obtain ⟨b,m,d,b',m',d',e2,-⟩:=h2.op
 obtain ⟨rfl,rfl,rfl⟩:=agg3_inj e1
 obtain ⟨rfl,rfl,rfl⟩:=agg3_inj e2
 have:cs=[.bool p.1.1,.slice a l c,.slice a' l' c',.bool p.2.1,.slice b m d,.slice b' m' d']:=by simpa using he
 rw [this] at hu
 simp at hu
 rcases hu with rfl | rfl | rfl | rfl | rfl | rfl <;> rfl⟩
end Go.Att
namespace Go.Proofs.Ytnbbhpihlcglgaa
open Go.RowKit Go.Att

def oneND (p:NN × NN):NN × NN:=(oneN p.1,oneN p.2)
abbrev OnP (w:World) (v:Value) (p:NN × NN):Prop:=OwnNPp 163 w v p
theorem onp_ext {w w':World} {v:Value} {a:NN × NN} (h:OnP w v a) (x:Ext w w'):OnP w' v a:=OwnNPp.ext h x
theorem etOnesS:ElemT Try.prog 26 152 (.agg #[.bool false,.slice none 0 0,.slice none 0 0,.bool false,.slice none 0 0,.slice none 0 0]) 6 112:=ElemT.mk' Try.underlying26 (by kernel_rfl) rfl (by decide)
set_option maxRecDepth 100000 in
set_option maxHeartbeats 8000000 in
set_option linter.unusedSimpArgs false in
theorem ones17_any {w:World} {v:Value} {l:List (NN × NN)} (hv:RdRow 6 RdNDp w v l):
  Calls Try.prog 71 #[v] w (Gives w fun v' w'=>OwnRow 6 OnP 152 w.heap.size w' v' ((l.take 34).map oneND)):=by
 refine via fun R hR=>?_
 obtain ⟨a,c,rfl,hlc,hcm⟩:=hv.shape
 have HV:=Lib.hid hv
 unfold maxLen at hcm
 clear hv
 go_enter Try.func71,Try.ntmps71
 go_wp2_with fail
 go_loopw [3,4] (fun o i wr=>∃ k:Nat,i=.int .i64 k∧k≤l.length∧k≤34∧Ext w wr∧Hid (OwnRow 6 OnP 152 w.heap.size wr o ((l.take k).map oneND))) (fun _ i _=>34 - (intOf i).toNat)
 case atStart=>exact ⟨0,rfl,Nat.zero_le _,Nat.zero_le _,Ext.alloc _ _,by rw [List.take_zero];exact OwnRow.nilLit _ (Nat.le_refl _)⟩
 case round=>
  obtain ⟨k,rfl,hk,hk2,hx,hO⟩:=hrel
  have hsz:=hx.size
  obtain ⟨w1,hw1⟩:∃ w0:World,w0=wr:=⟨_,rfl⟩
  subst hw1
  by_cases hlt:k < l.length
  ·by_cases h34:k < 34
   ·have hd:decide ((k:Int) < (l.length:Int))=true:=decide_eq_true (by omega)
    have hd8:decide ((k:Int) < 34)=true:=decide_eq_true (by omega)
    have HI2:(0:Int)≤(k:Int)∧(k:Int) < (l.length:Int):=⟨by omega,by omega⟩
    obtain ⟨b,off,cs,rfl,hcl,hT,hc⟩:=HV.out.at (by decide) k hlt
    have HSN:=Lib.hid (take_map_snoc oneND hlt)
    have hbo:=Bo.of hc hcl
    obtain ⟨y0,y1,y2,y3,y4,y5,he,hn1,hn2⟩:=hT
    have hcs:cs=[y0,y1,y2,y3,y4,y5]:=by simpa using he
    subst hcs
    have CB:=Lib.hid (hbo.ext hx)
    have CBX:Hid (Bo w b (off+k*6) [y0,y1,y2,y3,y4,y5]):=hbo
    have HN1:=Lib.hid (RdNp.ext (n:=l[k].1) hn1 hx)
    have HN2:=Lib.hid (RdNp.ext (n:=l[k].2) hn2 hx)
    clear hn1 hn2 he hbo hc hcl
    generalize l[k]=p at*
    have HKL:Hid (((l.take k).map oneND).length≤34):=by show _≤_;simp;omega
    obtain ⟨ol,hol⟩:∃ ol,(l.take k).map oneND=ol:=⟨_,rfl⟩
    rw [hol] at HKL HSN hO
    clear hol
    go_upto_region 5 with (fail)
    have b2:=drew_ext w1
    have XE:=b2
    refine wp_region_noPanic ?_
    refine wp_region_held_drew (S:=fun w'=>w'.cell? ⟨b,off+k*6,none⟩=some (y0)∧w'.cell? ⟨b,off+k*6+1,none⟩=some (y1)∧w'.cell? ⟨b,off+k*6+2,none⟩=some (y2)∧w'.cell? ⟨b,off+k*6+3,none⟩=some (y3)∧w'.cell? ⟨b,off+k*6+4,none⟩=some (y4)∧w'.cell? ⟨b,off+k*6+5,none⟩=some (y5)) (by kernel_rfl) ((CB.out.ext XE).c6) (fun hHeld=>?_)
    refine tkH 0 hHeld ?_
    simp only [jP,jA,jB,jC,jD,jE,jF]
    refine tkH 1 hHeld ?_
    simp only [jP,jA,jB,jC,jD,jE,jF]
    refine tkH 2 hHeld ?_
    simp only [jP,jA,jB,jC,jD,jE,jF]
    refine tkH 3 hHeld ?_
    simp only [jP,jA,jB,jC,jD,jE,jF]
    refine tkH 4 hHeld ?_
    simp only [jP,jA,jB,jC,jD,jE,jF]
    refine tkH 5 hHeld ?_
    simp only [jP,jA,jB,jC,jD,jE,jF]
    refine tkH 7 hHeld ?_
    simp only [jP,jA,jB,jC,jD,jE,jF]
    refine tkH 8 hHeld ?_
    simp only [jP,jA,jB,jC,jD,jE,jF]
    refine tkH 9 hHeld ?_
    simp only [jP,jA,jB,jC,jD,jE,jF]
    refine tkH 10 hHeld ?_
    simp only [jP,jA,jB,jC,jD,jE,jF]
    refine tkH 11 hHeld ?_
    simp only [jP,jA,jB,jC,jD,jE,jF]
    refine rdH 6 (by kernel_rfl) rfl (fun K hK=>?_)
    go_simp
    go_at_call 113;refine (one16_own (RdNp.ext HN1.out XE)).mono ?_;rintro e w3 ⟨v3,rfl,b3,o3⟩;have O3:=Lib.hid o3;clear o3;(first | have XE:=Ext.trans XE b3 | have XE:=Ext.trans (Ext.trans XE (Ext.alloc _ _)) b3);obtain ⟨a3,l3,c3,a4,l4,c4,rfl,P3⟩:=O3.out.op
    go_wp2_with fail
    refine hK.out _ _ ((CB.out.ext XE).c6) (fun hHeld=>?_)
    clear hK K
    try simp only [jP,jA,jB,jC,jD,jE,jF]
    refine rdH 12 (by kernel_rfl) rfl (fun K hK=>?_)
    go_simp
    go_at_call 113;refine (one16_own (RdNp.ext HN2.out XE)).mono ?_;rintro e w4 ⟨v4,rfl,b4,o4⟩;have O4:=Lib.hid o4;clear o4;(first | have XE:=Ext.trans XE b4 | have XE:=Ext.trans (Ext.trans XE (Ext.alloc _ _)) b4);obtain ⟨a5,l5,c5,a6,l6,c6,rfl,P4⟩:=O4.out.op;have HP:Hid (OnP w4 (.agg #[.bool (oneN p.1).1,.slice a3 l3 c3,.slice a4 l4 c4,.bool (oneN p.2).1,.slice a5 l5 c5,.slice a6 l6 c6]) (oneND p)):=⟨_,_,_,_,_,_,rfl,P3.out.ext b4,P4.out⟩
    go_wp2_with fail
    refine hK.out _ _ ((CB.out.ext XE).c6) (fun hHeld=>?_)
    clear hK K
    try simp only [jP,jA,jB,jC,jD,jE,jF]
    refine tkH 13 hHeld ?_
    simp only [jP,jA,jB,jC,jD,jE,jF]
    refine rdH 14 (by kernel_rfl) rfl (fun K hK=>?_)
    go_simp
    refine hK.out _ _ ((CB.out.ext (Ext.trans XE (Ext.alloc _ _))).c6) (fun hHeld=>?_)
    clear hK K
    try simp only [jP,jA,jB,jC,jD,jE,jF]
    refine rdH 15 (by kernel_rfl) rfl (fun K hK=>?_)
    refine if_wantedL rfl ?_
    refine append_row (y:=oneND p) etOnesS (kdNP (e:=163) (by decide)) _ _ (by rfl) w.heap.size (by rfl) _ (by rfl) (hO.out.ext onp_ext XE) rfl HP.out (Below.size (Ext.trans hx XE)) (by have:=HKL.out;omega) (by have:=HKL.out;unfold maxLen;omega) ?_
    intro v9 w9 o9 b9 g9
    have XW:=Lib.hid (Below.trans (Ext.trans hx XE) b9)
    have O9:=Lib.hid o9
    refine hK.out _ _ ((CBX.out.ext XW.out).c6) (fun hHeld=>?_)
    clear hK K o9
    try simp only [jP,jA,jB,jC,jD,jE,jF]
    refine tkH 16 hHeld ?_
    simp only [jP,jA,jB,jC,jD,jE,jF]
    refine wpAnyH_done (by kernel_rfl) ?_ _
    refine NoPanic.normal ?_
    go_wp2_with fail
    go_roundw
    case rel=>
     refine ⟨k+1,by go_num,by omega,by omega,XW.out,?_⟩
     rw [HSN.out]
     exact O9
    case measure=>simp [intOf] <;> omega
   ·obtain rfl:k=34:=by omega
    go_wp2_with fail
    exact hR.out _ _ (Gives.mk hx hO.out)
  ·obtain rfl:k=l.length:=by omega
   have HX:Hid ((l.take l.length).map oneND=(l.take 34).map oneND):=by show _=_;rw [List.take_length,List.take_of_length_le hk2]
   go_wp2_with fail
   exact hR.out _ _ (Gives.mk hx (by rw [← HX.out];exact hO.out))
end Go.Proofs.Ytnbbhpihlcglgaa
