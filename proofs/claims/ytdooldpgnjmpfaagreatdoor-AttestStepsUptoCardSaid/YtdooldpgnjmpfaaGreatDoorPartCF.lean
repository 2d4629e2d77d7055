/- A group of texts: PANot, FarkLaw, Pbm -/
import Derived.Test.YtdooldpgnjmpfaaGreatDoorSq
import Derived.Test.YtdooldpgnjmpfaaGreatDoorPartCE
import Derived.Test.YtdooldpgnjmpfaaGreatDoorPartCA
import Derived.Test.YtdooldpgnjmpfaaGreatDoorPartAI
import Derived.Test.YtdooldpgnjmpfaaGreatDoorPartCB
import Derived.Test.YtdooldpgnjmpfaaGreatDoorPartAH
namespace Go.Att
open Go.RowKit
theorem build2KA {P:Program} {o:Oper} {a:Act} {K:Act→World→Prop} {Q:Exit→Act→World→Prop} {w:World} {t e:TypeId} {z:Value} {size bytes:Nat} (ET:ElemT P t e z size bytes) {x x':Operand} (ho:o.op=.buildSlice t 2 #[(0,x),(1,x')])
  {u u':Value} (hx:a.eval x=u) (hx':a.eval x'=u') (cs:List Value) (hf:Instr.fill (fun i=>some (i*size,size)) ((Array.range (2*size)).map (z.cells[· % z.cells.size]!)) [(0,u),(1,u')]=some cs.toArray) (hs:0 < size∧size≤100)
  (h:∀ g w',Ext w w'→K (a.put o.dst (.slice (some ⟨g,0,none⟩) 2 2)) w'):o.wp P a w K Q:=by
 obtain ⟨i,hi,hz,hsz,-⟩:=ET.inf
 refine wp_buildSlice t e 2 _ ho cs.toArray i _ ET.und hi hz (by rw [hsz];omega) (by rw [hsz];omega) ?_ (h _ _ (Ext.alloc _ _))
 rw [hsz]
 have hp:(#[(0,x),(1,x')].map fun (i,x)=>(i,a.eval x)).toList=[(0,a.eval x),(1,a.eval x')]:=by simp
 rw [hp,hx,hx']
 exact hf
end Go.Att
namespace Go.Proofs.YtdooldpgnjmpfaaGreatDoor
open Go.RowKit Go.Att

def NegI (w:World) (v:Value):Prop:=OwnQ 119 0 w v (-1)
theorem NegI.ext {w w':World} {v:Value} (h:NegI w v) (x:Ext w w'):NegI w' v:=OwnQ.ext h x
def ScX (l:TL) (c:Rat) (w:World) (v:Value):Prop:=OwnX 0 w v l c
theorem ScX.ext {l:TL} {c:Rat} {w w':World} {v:Value} (h:ScX l c w v) (x:Ext w w'):ScX l c w' v:=OwnEx.ext h x
theorem meetE {w0 wv:World} {B:Nat} {l:TL} {c:Rat} (rB:Rt wv B 4 61) (hx:Ext w0 wv) (hB:w0.heap.size≤B) {x0 x1 x2 x3:Value} (o:OwnX 0 wv (.agg #[x0,x1,x2,x3]) l c):
  ∃ W,W=(((wv.setCell ⟨B,0,none⟩ x0).setCell ⟨B,1,none⟩ x1).setCell ⟨B,2,none⟩ x2).setCell ⟨B,3,none⟩ x3∧Ext w0 W∧Hid (Bx W B [x0,x1,x2,x3])∧Hid (OwnX 0 W (.agg #[x0,x1,x2,x3]) l c):=
 ⟨Att.putL wv B 0 [x0,x1,x2,x3],rfl,putL_below hB _ _ hx,Lib.hid (rB.putL_at [x0,x1,x2,x3] rfl).1,Lib.hid (o.putT rB (by decide) (by decide) 0 _)⟩
set_option linter.unusedSimpArgs false in
set_option maxHeartbeats 20000000 in
set_option maxRecDepth 100000 in
theorem anot_any {w:World} {v:Value} {a:AT} (hv:OwnA w v a) (hop:1≤a.2∧a.2≤3) (hs:Sm3 a):
  Calls Tryz.prog 67 #[v] w (Gives w fun v' w'=>∃ ad n k,v'=.tuple #[.slice ad n k,.int .i64 0]∧(a.2=3→n=2)∧(a.2≠3→n=1∧RdRow 5 OwnA w' (.slice ad n k) [oppA a])):=by
 refine via fun R hR=>?_
 have HA:=Lib.hid hv
 obtain ⟨a0,k,s,b,m,d,b',m',d',rfl,HX⟩:=hv.op
 have HCK:Hid (∀ w',Ext w w'→Calls Tryz.prog 15 #[.agg #[.slice a0 a.1.1.length k,.bool s,.slice b m d,.slice b' m' d',.int .i64 a.2]] w' (Gives w' fun v' _=>v'=.int .i64 0)):=fun w' x=>by
  have h:=check9_any (HA.out.ext x)
  rw [show chk a.2=0 from if_pos hop] at h
  exact h
 have HSC:Hid (∀ w' u,Ext w w'→NegI w' u→Calls Tryz.prog 52 #[u,.agg #[.slice a0 a.1.1.length k,.bool s,.slice b m d,.slice b' m' d']] w' (Gives w' fun v' w'=>ScX (sclE (-1) a.1.1) ((-1)*a.1.2) w' v')):=fun w' u x hu=>by
  refine (lscale_any 2 230 230 hu (HX.out.rd.ext x) (by have:=Sz.int (-1) (by decide);exact this) hs.2.1 hs.2.2 (by have:=hs.1;omega) (by decide) (by decide)).mono ?_
  rintro _ _ ⟨v,e,bb,l',h1,h2,-,-,o⟩
  have he:=sclE_uniq h1 h2
  subst he
  exact ⟨v,e,bb,o.mono (Nat.zero_le _)⟩
 have HLC:Hid (∀ w',Ext w w'→Calls Tryz.prog 48 #[.agg #[.slice a0 a.1.1.length k,.bool s,.slice b m d,.slice b' m' d']] w' (Gives w' fun v' w'=>∃ l,OwnX 0 w' v' l a.1.2)):=fun w' x=>by
  refine (canon_any 230 (HX.out.rd.ext x) hs.2.1 (by have:=hs.1;omega) (by decide)).mono ?_
  rintro _ _ ⟨v,e,bb,l',-,-,-,o⟩
  exact ⟨v,e,bb,l',o.mono (Nat.zero_le _)⟩
 have HI1:Hid (∀ w',Calls Tryz.prog 65 #[.int .i64 (-1)] w' (Gives w' fun v' w'=>NegI w' v')):=fun w'=>(rint_any (by decide)).mono fun _ _ ⟨v,e,b,o⟩=>⟨v,e,b,o.mono (Nat.zero_le _)⟩
 have HOP:=Lib.hid hop
 have HOA:Hid (oppA a=((sclE (-1) a.1.1,(-1)*a.1.2),3 - a.2)):=Lib.hid rfl
 clear hv hop hs HX HA
 generalize oppA a=oa at*
 obtain ⟨⟨l0,cc⟩,op⟩:=a
 dsimp only at*
 generalize sclE (-1) l0=l2 at*
 generalize (-1)*cc=cc2 at*
 generalize l0.length=n at*
 obtain ⟨w1,hw1,b1,c1,-,-⟩:=bx1 w [.slice a0 n k,.bool s,.slice b m d,.slice b' m' d',.int .i64 op] 63
 have HW:=Lib.hid hw1
 have C1:=Lib.hid c1
 clear hw1 c1
 go_enter Tryz.func67,Tryz.ntmps67
 go_upto_region 1 with (fail)
 rw [← HW.out]
 clear HW
 obtain ⟨k0,k1,k2,k3,k4⟩:=C1.out.c5
 go_upto_region 2 with (go_at_call 15;refine (HCK.out _ b1).mono ?_;rintro e w2 ⟨v2,rfl,X2,rfl⟩)
 clear k0 k1 k2 k3 k4 HCK
 have x2:=Ext.trans b1 X2
 have C2:=Lib.hid (C1.out.ext X2)
 go_upto_region 4 with (fail)
 have SZ2:=Lib.hid C2.out.lt
 go_cut [5] (fun s5 wx=>∃ (B5:Nat) (e0:Option Addr) (e1:Nat) (e2:Bool) (e3:Option Addr) (e4 e5:Nat) (e6:Option Addr) (e7 e8:Nat),s5=.pointer (some ⟨B5,0,none⟩)∧Ext w2 wx∧Hid (Bx wx B5 [.slice e0 l2.length e1,.bool e2,.slice e3 e4 e5,.slice e6 e7 e8])∧Hid (OwnX 0 wx (.agg #[.slice e0 l2.length e1,.bool e2,.slice e3 e4 e5,.slice e6 e7 e8]) l2 cc2))
 case first=>
  as_aux_lemma=>
   refine wp_region_noPanic ?_
   refine wp_region_held_drew (S:=fun w'=>w'.cell? ⟨w.heap.size,0,none⟩=some (.slice a0 n k)∧w'.cell? ⟨w.heap.size,1,none⟩=some (.bool s)∧w'.cell? ⟨w.heap.size,2,none⟩=some (.slice b m d)∧w'.cell? ⟨w.heap.size,3,none⟩=some (.slice b' m' d')∧w'.cell? ⟨w.heap.size,4,none⟩=some (.int .i64 op)) (by kernel_rfl) ((C2.out.ext (drew_ext w2)).c5) (fun hHeld=>?_)
   refine tkH 1 hHeld ?_
   simp only [jP,jA,jB,jC,jD,jE,jF]
   refine tkH 2 hHeld ?_
   simp only [jP,jA,jB,jC,jD,jE,jF]
   refine anyH_cap fun O Q9 AA hO hQ hA=>?_
   obtain ⟨SS,hSS⟩:∃ SS:World→Prop,Hid (SS=fun w'=>w'.cell? ⟨w.heap.size,0,none⟩=some (.slice a0 n k)∧w'.cell? ⟨w.heap.size,1,none⟩=some (.bool s)∧w'.cell? ⟨w.heap.size,2,none⟩=some (.slice b m d)∧w'.cell? ⟨w.heap.size,3,none⟩=some (.slice b' m' d')∧w'.cell? ⟨w.heap.size,4,none⟩=some (.int .i64 op)):=⟨_,rfl⟩
   have KP:Hid (∀ wv,Ext w2 wv→SS wv):=fun wv XE=>by rw [hSS.out];exact (C2.out.ext XE).c5
   have L2_4:∀ (wv:World) (v0 v3:Value) (B4:Nat),Hid (Ext w2 wv)→Hid (NegI wv v0)→Hid (ScX l2 cc2 wv v3)→Hid (Rt wv B4 4 61)→Hid (w2.heap.size≤B4)→wpAnyH Tryz.prog .any O Q9 SS 1 #[true,true,true,true,true,false] (((AA.put (some 11) v0).put (some 14) v3).put (some 5) (.pointer (some ⟨B4,0,none⟩))) wv:=by
    intro wv v0 v3 B4 hX p0 p3 r4 s4
    have hO1:=hO.out
    have hQ1:=hQ.out
    have hA1:=hA.out
    subst hO1
    subst hQ1
    subst hA1
    have XE:=hX.out
    have hHeld:=KP.out _ XE
    have hS1:=hSS.out
    subst hS1
    try simp only [jP,jA,jB,jC,jD,jE,jF]
    have k0_4:w.heap.size≠B4:=by have h1:=s4.out;have hz0:=SZ2.out;omega
    obtain ⟨f0,f1,f2,f3,f4,f5,f6,f7,f8,rfl,-,-,HS3⟩:=OwnEx.op p3.out
    obtain ⟨_,_,_,_,i4_0,i4_1,i4_2,i4_3,f4_0,f4_1,f4_2,f4_3⟩:=r4.out.c4
    refine rdH 5 (by kernel_rfl) rfl (fun K hK=>?_)
    go_simp
    refine hK.out _ _ ((((((C2.out.ext XE).set1 k0_4 _ _).set1 k0_4 _ _).set1 k0_4 _ _).set1 k0_4 _ _).c5) (fun hHeld=>?_)
    clear hK K
    try simp only [jP,jA,jB,jC,jD,jE,jF]
    refine wpAnyH_done (by kernel_rfl) ?_ _
    refine NoPanic.normal ?_
    go_wp2_with fail
    go_meet
    obtain ⟨W,hW,hM1,hM2,hM3⟩:=meetE r4.out hX.out s4.out HS3.out
    rw [← hW]
    exact ⟨B4,_,_,_,_,_,_,_,_,_,rfl,hM1,hM2,hM3⟩
   have L1_4:∀ (wv:World) (v0:Value) (B4:Nat),Hid (Ext w2 wv)→Hid (NegI wv v0)→Hid (Rt wv B4 4 61)→Hid (w2.heap.size≤B4)→wpAnyH Tryz.prog .any O Q9 SS 2 #[true,true,true,false,true,false] ((AA.put (some 11) v0).put (some 5) (.pointer (some ⟨B4,0,none⟩))) wv:=by
    intro wv v0 B4 hX p0 r4 s4
    have hO1:=hO.out
    have hQ1:=hQ.out
    have hA1:=hA.out
    subst hO1
    subst hQ1
    subst hA1
    have XE:=hX.out
    try simp only [jP,jA,jB,jC,jD,jE,jF]
    refine rdH 3 (by kernel_rfl) rfl (fun K hK=>?_)
    go_simp
    go_at_call 52
    refine (HSC.out _ _ (Ext.trans x2 XE) p0.out).mono ?_
    rintro e wn ⟨vn,rfl,bn,on⟩
    go_wp2_with fail
    refine hK.out _ _ (KP.out _ (Ext.trans XE bn)) (fun _=>?_)
    clear hK K
    try simp only [jP,jA,jB,jC,jD,jE,jF]
    exact wpAnyH_at (L2_4 wn v0 vn B4 (Ext.trans XE bn) (p0.out.ext bn) (on) (r4.out.ext bn) s4) (by kernel_rfl) (by kernel_rfl) (by kernel_rfl)
   have L2_:∀ (wv:World) (v0 v3:Value),Hid (Ext w2 wv)→Hid (NegI wv v0)→Hid (ScX l2 cc2 wv v3)→wpAnyH Tryz.prog .any O Q9 SS 2 #[true,true,true,true,false,false] ((AA.put (some 11) v0).put (some 14) v3) wv:=by
    intro wv v0 v3 hX p0 p3
    have hO1:=hO.out
    have hQ1:=hQ.out
    have hA1:=hA.out
    subst hO1
    subst hQ1
    subst hA1
    have XE:=hX.out
    try simp only [jP,jA,jB,jC,jD,jE,jF]
    refine rdH 4 (by kernel_rfl) rfl (fun K hK=>?_)
    go_simp
    refine hK.out _ _ (KP.out _ (Ext.trans XE (Ext.alloc _ _))) (fun _=>?_)
    clear hK K
    try simp only [jP,jA,jB,jC,jD,jE,jF]
    exact wpAnyH_at (L2_4 _ v0 v3 wv.heap.size (Ext.trans XE (Ext.alloc wv (.cells [.slice none 0 0,.bool false,.slice none 0 0,.slice none 0 0].toArray 61))) (p0.out.ext (Ext.alloc wv (.cells [.slice none 0 0,.bool false,.slice none 0 0,.slice none 0 0].toArray 61))) (p3.out.ext (Ext.alloc wv (.cells [.slice none 0 0,.bool false,.slice none 0 0,.slice none 0 0].toArray 61))) (Rt.new wv [.slice none 0 0,.bool false,.slice none 0 0,.slice none 0 0] 61) (Below.size XE)) (by kernel_rfl) (by kernel_rfl) (by kernel_rfl)
   have L0_4:∀ (wv:World) (B4:Nat),Hid (Ext w2 wv)→Hid (Rt wv B4 4 61)→Hid (w2.heap.size≤B4)→wpAnyH Tryz.prog .any O Q9 SS 3 #[false,true,true,false,true,false] (AA.put (some 5) (.pointer (some ⟨B4,0,none⟩))) wv:=by
    intro wv B4 hX r4 s4
    have hO1:=hO.out
    have hQ1:=hQ.out
    have hA1:=hA.out
    subst hO1
    subst hQ1
    subst hA1
    have XE:=hX.out
    try simp only [jP,jA,jB,jC,jD,jE,jF]
    refine rdH 0 (by kernel_rfl) rfl (fun K hK=>?_)
    go_simp
    go_at_call 65
    refine (HI1.out _).mono ?_
    rintro e wn ⟨vn,rfl,bn,on⟩
    go_wp2_with fail
    refine hK.out _ _ (KP.out _ (Ext.trans XE bn)) (fun _=>?_)
    clear hK K
    try simp only [jP,jA,jB,jC,jD,jE,jF]
    exact wpAnyH_at (L1_4 wn vn B4 (Ext.trans XE bn) (on) (r4.out.ext bn) s4) (by kernel_rfl) (by kernel_rfl) (by kernel_rfl)
   have L1_:∀ (wv:World) (v0:Value),Hid (Ext w2 wv)→Hid (NegI wv v0)→wpAnyH Tryz.prog .any O Q9 SS 3 #[true,true,true,false,false,false] (AA.put (some 11) v0) wv:=by
    intro wv v0 hX p0
    have hO1:=hO.out
    have hQ1:=hQ.out
    have hA1:=hA.out
    subst hO1
    subst hQ1
    subst hA1
    have XE:=hX.out
    try simp only [jP,jA,jB,jC,jD,jE,jF]
    refine wpAnyH_ready (rs:=[3,4]) (by kernel_rfl) (by simp) ?_
    refine AllReadyH.cons (o:=_) rfl (fun K hK=>?_) (AllReadyH.cons (o:=_) rfl (fun K hK=>?_) AllReadyH.nil)
    ·skip
     go_simp
     go_at_call 52
     refine (HSC.out _ _ (Ext.trans x2 XE) p0.out).mono ?_
     rintro e wn ⟨vn,rfl,bn,on⟩
     go_wp2_with fail
     refine hK.out _ _ (KP.out _ (Ext.trans XE bn)) (fun _=>?_)
     clear hK K
     try simp only [jP,jA,jB,jC,jD,jE,jF]
     exact wpAnyH_at (L2_ wn v0 vn (Ext.trans XE bn) (p0.out.ext bn) (on)) (by kernel_rfl) (by kernel_rfl) (by kernel_rfl)
    ·skip
     go_simp
     refine hK.out _ _ (KP.out _ (Ext.trans XE (Ext.alloc _ _))) (fun _=>?_)
     clear hK K
     try simp only [jP,jA,jB,jC,jD,jE,jF]
     exact wpAnyH_at (L1_4 _ v0 wv.heap.size (Ext.trans XE (Ext.alloc wv (.cells [.slice none 0 0,.bool false,.slice none 0 0,.slice none 0 0].toArray 61))) (p0.out.ext (Ext.alloc wv (.cells [.slice none 0 0,.bool false,.slice none 0 0,.slice none 0 0].toArray 61))) (Rt.new wv [.slice none 0 0,.bool false,.slice none 0 0,.slice none 0 0] 61) (Below.size XE)) (by kernel_rfl) (by kernel_rfl) (by kernel_rfl)
   have L0_:∀ (wv:World),Hid (Ext w2 wv)→wpAnyH Tryz.prog .any O Q9 SS 4 #[false,true,true,false,false,false] AA wv:=by
    intro wv hX
    have hO1:=hO.out
    have hQ1:=hQ.out
    have hA1:=hA.out
    subst hO1
    subst hQ1
    subst hA1
    have XE:=hX.out
    try simp only [jP,jA,jB,jC,jD,jE,jF]
    refine wpAnyH_ready (rs:=[0,4]) (by kernel_rfl) (by simp) ?_
    refine AllReadyH.cons (o:=_) rfl (fun K hK=>?_) (AllReadyH.cons (o:=_) rfl (fun K hK=>?_) AllReadyH.nil)
    ·skip
     go_simp
     go_at_call 65
     refine (HI1.out _).mono ?_
     rintro e wn ⟨vn,rfl,bn,on⟩
     go_wp2_with fail
     refine hK.out _ _ (KP.out _ (Ext.trans XE bn)) (fun _=>?_)
     clear hK K
     try simp only [jP,jA,jB,jC,jD,jE,jF]
     exact wpAnyH_at (L1_ wn vn (Ext.trans XE bn) (on)) (by kernel_rfl) (by kernel_rfl) (by kernel_rfl)
    ·skip
     go_simp
     refine hK.out _ _ (KP.out _ (Ext.trans XE (Ext.alloc _ _))) (fun _=>?_)
     clear hK K
     try simp only [jP,jA,jB,jC,jD,jE,jF]
     exact wpAnyH_at (L0_4 _ wv.heap.size (Ext.trans XE (Ext.alloc wv (.cells [.slice none 0 0,.bool false,.slice none 0 0,.slice none 0 0].toArray 61))) (Rt.new wv [.slice none 0 0,.bool false,.slice none 0 0,.slice none 0 0] 61) (Below.size XE)) (by kernel_rfl) (by kernel_rfl) (by kernel_rfl)
   have hO1:=hO.out
   have hQ1:=hQ.out
   have hA1:=hA.out
   subst hO1
   subst hQ1
   subst hA1
   have hS1:=hSS.out
   subst hS1
   exact wpAnyH_at (L0_ w2.drew (drew_ext w2)) (by kernel_rfl) (by kernel_rfl) (by kernel_rfl)
 case rest=>
  as_aux_lemma=>
   obtain ⟨B5,e0,e1,e2,e3,e4,e5,e6,e7,e8,rfl,X25,hC5,hO5⟩:=hcut
   obtain ⟨w5,hw5⟩:∃ w0:World,w0=wc:=⟨_,rfl⟩
   subst hw5
   have HX5:=Lib.hid (Ext.trans x2 X25)
   have CA5:=Lib.hid (C2.out.ext X25)
   clear HSC HI1 SZ2
   obtain ⟨q0,q1,q2,q3⟩:=hC5.out.c4
   obtain ⟨k0,k1,k2,k3,k4⟩:=CA5.out.c5
   by_cases h1:op=1
   ·subst h1
    have HE:Hid (OwnA w5 (.agg #[.slice e0 l2.length e1,.bool e2,.slice e3 e4 e5,.slice e6 e7 e8,.int .i64 2]) oa):=by
     show OwnA _ _ _
     rw [HOA.out]
     exact ⟨_,_,_,_,rfl,hO5.out⟩
    go_wp2_with (refine build1W etAt (by rfl) (by rfl) (T:=OwnA) OwnAt.ext (by rfl) [.slice e0 l2.length e1,.bool e2,.slice e3 e4 e5,.slice e6 e7 e8,.int .i64 2] (fill_a1 ..) rfl (by decide) HE.out ?_;intro g8 w8 x8 _ l8;have X8:=Lib.hid x8;have L8:=Lib.hid l8;clear x8 l8)
    exact hR.out _ _ (Gives.mk (Ext.trans HX5.out X8.out) ⟨_,_,_,rfl,fun h=>absurd h (by decide),fun _=>⟨rfl,L8.out.rd⟩⟩)
   ·by_cases h2:op=2
    ·subst h2
     have HE:Hid (OwnA w5 (.agg #[.slice e0 l2.length e1,.bool e2,.slice e3 e4 e5,.slice e6 e7 e8,.int .i64 1]) oa):=by
      show OwnA _ _ _
      rw [HOA.out]
      exact ⟨_,_,_,_,rfl,hO5.out⟩
     go_wp2_with (refine build1W etAt (by rfl) (by rfl) (T:=OwnA) OwnAt.ext (by rfl) [.slice e0 l2.length e1,.bool e2,.slice e3 e4 e5,.slice e6 e7 e8,.int .i64 1] (fill_a1 ..) rfl (by decide) HE.out ?_;intro g8 w8 x8 _ l8;have X8:=Lib.hid x8;have L8:=Lib.hid l8;clear x8 l8)
     exact hR.out _ _ (Gives.mk (Ext.trans HX5.out X8.out) ⟨_,_,_,rfl,fun h=>absurd h (by decide),fun _=>⟨rfl,L8.out.rd⟩⟩)
    ·obtain rfl:op=3:=by have:=HOP.out;omega
     go_upto_region 10 with fail
     clear q0 q1 q2 q3 k0 k1 k2 k3 k4
     have b6:=drew_ext w5
     have XE:=b6
     refine wp_region_noPanic ?_
     refine wp_region_held_drew (S:=fun w'=>(w'.cell? ⟨B5,0,none⟩=some (.slice e0 l2.length e1)∧w'.cell? ⟨B5,1,none⟩=some (.bool e2)∧w'.cell? ⟨B5,2,none⟩=some (.slice e3 e4 e5)∧w'.cell? ⟨B5,3,none⟩=some (.slice e6 e7 e8))∧(w'.cell? ⟨w.heap.size,0,none⟩=some (.slice a0 n k)∧w'.cell? ⟨w.heap.size,1,none⟩=some (.bool s)∧w'.cell? ⟨w.heap.size,2,none⟩=some (.slice b m d)∧w'.cell? ⟨w.heap.size,3,none⟩=some (.slice b' m' d')∧w'.cell? ⟨w.heap.size,4,none⟩=some (.int .i64 3))) (by kernel_rfl) (⟨(hC5.out.ext XE).c4,(CA5.out.ext XE).c5⟩) (fun hHeld=>?_)
     refine tkH 0 hHeld ?_
     simp only [jP,jA,jB,jC,jD,jE,jF]
     refine tkH 1 hHeld ?_
     simp only [jP,jA,jB,jC,jD,jE,jF]
     refine tkH 4 hHeld ?_
     simp only [jP,jA,jB,jC,jD,jE,jF]
     refine tkH 5 hHeld ?_
     simp only [jP,jA,jB,jC,jD,jE,jF]
     refine rdH 2 (by kernel_rfl) rfl (fun K hK=>?_)
     go_simp
     go_at_call 48;refine (HLC.out _ (Ext.trans HX5.out XE)).mono ?_;rintro e w7 ⟨v7,rfl,b7,o7⟩;have O7:=Lib.hid o7;clear o7;(first | have XE:=Ext.trans XE b7 | have XE:=Ext.trans (Ext.trans XE (Ext.alloc _ _)) b7);obtain ⟨l9,o9⟩:=O7.out;obtain ⟨f0,f1,f2,f3,f4,f5,f6,f7,f8,rfl,-,-,-⟩:=OwnEx.op o9;clear O7 o9
     go_wp2_with fail
     refine hK.out _ _ (⟨(hC5.out.ext XE).c4,(CA5.out.ext XE).c5⟩) (fun hHeld=>?_)
     clear hK K
     try simp only [jP,jA,jB,jC,jD,jE,jF]
     refine tkH 3 hHeld ?_
     simp only [jP,jA,jB,jC,jD,jE,jF]
     refine rdH 6 (by kernel_rfl) rfl (fun K hK=>?_)
     refine if_wantedL rfl ?_
     refine build2KA etAt (by rfl) (by rfl) (by rfl) [.slice f0 l9.length f1,.bool f2,.slice f3 f4 f5,.slice f6 f7 f8,.int .i64 2,.slice e0 l2.length e1,.bool e2,.slice e3 e4 e5,.slice e6 e7 e8,.int .i64 2] (fill_a2 ..) (by decide) ?_
     intro g8 w8 x8
     have XE:=Ext.trans XE x8
     refine hK.out _ _ ⟨(hC5.out.ext XE).c4,(CA5.out.ext XE).c5⟩ (fun hHeld=>?_)
     clear hK K
     try simp only [jP,jA,jB,jC,jD,jE,jF]
     refine tkH 7 hHeld ?_
     simp only [jP,jA,jB,jC,jD,jE,jF]
     refine tkH 8 hHeld ?_
     simp only [jP,jA,jB,jC,jD,jE,jF]
     refine wpAnyH_done (by kernel_rfl) ?_ _
     refine NoPanic.normal ?_
     go_wp2_with fail
     exact hR.out _ _ (Gives.mk (Ext.trans HX5.out XE) ⟨_,_,_,rfl,fun _=>rfl,fun h=>absurd rfl h⟩)
open Go.RowKit Go.Att

theorem sgge {q:Rat}:0≤q.num.sign↔0≤q:=by rw [Int.sign_nonneg_iff];exact Rat.num_nonneg
theorem sgle {q:Rat}:q.num.sign≤0↔q≤0:=by
 have h1:0≤(0 - q).num↔0≤0 - q:=Rat.num_nonneg
 rw [Rat.le_iff_sub_nonneg q 0,← h1,show (0 - q).num = -q.num by rw [Rat.sub_eq_add_neg,Rat.zero_add,Rat.neg_num],Int.sign_nonpos_iff]
 omega
theorem sglt {q:Rat}:q.num.sign < 0↔q < 0:=by
 rw [← Rat.not_le,← sgge]
 omega
theorem sggt {q:Rat}:0 < q.num.sign↔0 < q:=by
 rw [← Rat.not_le,← sgle]
 omega
def av (P:List Rat) (a:AT):Rat:=a.1.2+smv (cf a.1.1) P 0
def tot (P:List Rat):List AZ→Rat
 | []=>0
 | z :: l=>z.2*av P z.1+tot P l
theorem tot_eq (P:List Rat) (l:List AZ):tot P l=fct l+smv (fcf l) P 0:=by
 induction l with
 | nil=>show (0:Rat)=0+smv (fun _=>0) P 0;rw [smv_zero,Rat.add_zero]
 | cons z l ih=>
  show z.2*(z.1.1.2+smv (cf z.1.1.1) P 0)+tot P l=(z.2*z.1.1.2+fct l)+smv (fun x=>z.2*cf z.1.1.1 x+fcf l x) P 0
  rw [smv_add,smv_mul,ih]
  grind
theorem neg_of {t v:Rat} (ht:0≤t) (hv:v≤0):t*v≤0:=by
 have h:=Rat.mul_nonneg ht (show 0 ≤ -v by grind)
 grind
theorem neg_of' {t v:Rat} (ht:0 < t) (hv:v < 0):t*v < 0:=by
 have h:=Rat.mul_pos ht (show 0 < -v by grind)
 grind
theorem one_le {P:List Rat} {z:AZ} (hb:fbad z=false) (hh:holdA z.1 P=true):z.2*av P z.1≤0∧((z.1.2 == 2 && decide (0 < z.2.num.sign))=true→z.2*av P z.1 < 0):=by
 obtain ⟨⟨⟨l,c⟩,op⟩,t⟩:=z
 unfold fbad at hb
 rw [Bool.or_eq_false_iff] at hb
 obtain ⟨h1,h2⟩:=hb
 have h3:1≤op∧op≤3:=by simpa using h1
 change says op (av P ((l,c),op))=true at hh
 show t*av P ((l,c),op)≤0∧((op == 2 && decide (0 < t.num.sign))=true→t*av P ((l,c),op) < 0)
 generalize av P ((l,c),op)=v at*
 unfold says at hh
 change (op != 3 && decide (t.num.sign < 0))=false at h2
 have h4:op=1∨op=2∨op=3:=by omega
 rcases h4 with rfl | rfl | rfl
 ·have ht:0≤t:=by
   have:¬ t.num.sign < 0:=by simpa using h2
   exact sgge.1 (by omega)
  have hv:v≤0:=by
   have:v.num.sign=0∨v.num.sign < 0:=by simpa using hh
   exact sgle.1 (by omega)
  exact ⟨neg_of ht hv,fun h=>by simp at h⟩
 ·have ht:0≤t:=by
   have:¬ t.num.sign < 0:=by simpa using h2
   exact sgge.1 (by omega)
  have hv:v < 0:=by
   have:v.num.sign < 0:=by simpa using hh
   exact sglt.1 this
  refine ⟨neg_of ht (by grind),fun h=>?_⟩
  have h5:0 < t.num.sign:=by simpa using h
  exact neg_of' (sggt.1 h5) hv
 ·have hv:v=0:=by
   have:v.num.sign=0:=by simpa using hh
   exact num_sign_zero.1 this
  rw [hv,Rat.mul_zero]
  exact ⟨Rat.le_refl,fun h=>by simp at h⟩
theorem tot_le {P:List Rat}:∀ {l:List AZ},(∀ z∈l,fbad z=false)→(∀ z∈l,holdA z.1 P=true)→tot P l≤0∧(fst' l=true→tot P l < 0)
 | [],_,_=>⟨Rat.le_refl,fun h=>by cases h⟩
 | z :: l,hb,hh=>by
  have h1:=one_le (hb z List.mem_cons_self) (hh z List.mem_cons_self)
  have h2:=tot_le (l:=l) (fun y hy=>hb y (List.mem_cons_of_mem _ hy)) (fun y hy=>hh y (List.mem_cons_of_mem _ hy))
  show z.2*av P z.1+tot P l≤0∧(((z.1.2 == 2 && decide (0 < z.2.num.sign)) || fst' l)=true→z.2*av P z.1+tot P l < 0)
  refine ⟨by have:=h1.1;have:=h2.1;grind,fun h=>?_⟩
  rw [Bool.or_eq_true] at h
  rcases h with h | h
  ·have:=h1.2 h;have:=h2.1;grind
  ·have:=h1.1;have:=h2.2 h;grind
theorem farkas_sound {L:List AT} {T P:List Rat} {e:Int} (h:RefV L T true e) (hh:∀ a∈L,holdA a P=true∧1≤a.2∧a.2≤3):False:=by
 unfold RefV at h
 by_cases h1:L.length=T.length
 ·rw [if_neg (fun h=>h h1)] at h
  by_cases h2:(L.zip T).any fbad=true
  ·rw [if_pos h2] at h;exact absurd h.1 (by decide)
  ·rw [if_neg h2] at h
   obtain ⟨h3,h4⟩:=h.2.1 rfl
   have hb:∀ z∈L.zip T,fbad z=false:=fun z hz=>by
    by_cases hb:fbad z=true
    ·exact absurd (List.any_eq_true.2 ⟨z,hz,hb⟩) h2
    ·simpa using hb
   have h5:=tot_le (P:=P) hb (fun z hz=>(hh _ (List.of_mem_zip hz).1).1)
   rw [tot_eq,smv_congr h3,smv_zero,Rat.add_zero] at h5
   rcases h4 with h4 | ⟨h4,h6⟩
   ·have:=sggt.1 h4
    have:=h5.1
    grind
   ·have h7:=num_sign_zero.1 h4
    have:=h5.2 h6
    rw [h7] at this
    exact absurd this Rat.lt_irrefl
 ·rw [if_pos h1] at h;exact absurd h.1 (by decide)
open Go.RowKit Go.Att

theorem gtm {α:Type} [Inhabited α] {l:List α} {i:Nat} (h:i < l.length):gt l i∈l:=by rw [gt_lt h];exact List.getElem_mem h
structure Pb where
 R:Int
 B:Int
 ats:List AT
 cls:List (List Int)
def valP (p:Pb) (bs:List Bool) (xs:List Rat) (v:Int):Bool:=if v - 1 < p.B then bs.getD (v - 1).toNat false else holdA (gt p.ats (v - 1 - p.B).toNat) xs
def holdsP (p:Pb) (bs:List Bool) (xs:List Rat):Bool:=p.cls.all (clsT (valP p bs xs))
def knownL (n l:Int):Prop:=l≠0∧l ≠ -9223372036854775808∧(l.natAbs:Int)≤n
def GoodA (R:Int) (a:AT):Prop:=canA a=(a,0)∧1≤a.2∧a.2≤3∧∀ t∈a.1.1,0≤t.1∧t.1 < R
def GoodC (n:Int) (c:List Int):Prop:=cnL c=c∧(∀ l∈c,knownL n l)∧c.length≤64
def SzG (a:AT):Prop:=a.1.1.length≤12∧(∀ t∈a.1.1,Sz 219 t.2)∧Sz 118 a.1.2
structure GoodP {κ:Type} (ky:AT→κ) (p:Pb):Prop where
 R0:0≤p.R
 R1:p.R≤400
 B0:0≤p.B
 B1:p.B≤1000
 na:p.ats.length≤40
 nc:p.cls.length≤60
 ga:∀ a∈p.ats,GoodA p.R a
 gk:p.ats.Pairwise fun a b=>ky a≠ky b
 gc:∀ c∈p.cls,GoodC (p.B+p.ats.length) c
 sz:∀ a∈p.ats,SzG a
structure St where
 rule:Int
 c:List Int
 ix:Int
 pr:List Int
 ts:List Rat
instance:Inhabited St:=⟨⟨0,[],0,[],[]⟩⟩
def oppL (p:Pb) (l:Int):AT:=if l < 0 then gt p.ats ((l.natAbs:Int) - 1 - p.B).toNat else oppA (gt p.ats ((l.natAbs:Int) - 1 - p.B).toNat)
def oppOk (p:Pb) (l:Int):Prop:=p.B < (l.natAbs:Int)∧(l.natAbs:Int)≤p.B+p.ats.length∧(0 < l→(gt p.ats ((l.natAbs:Int) - 1 - p.B).toNat).2≠3)
def JustOk (p:Pb) (L:List St) (j:Nat):Prop:=
 (∀ l∈(gt L j).c,knownL (p.B+p.ats.length) l)∧
 ((gt L j).c∈p.cls∨
  (∃ e,(∀ l∈(gt L j).c,oppOk p l)∧RefV ((gt L j).c.map (oppL p)) (gt L j).ts true e)∨
  (∀ V:Int→Bool,(∀ i:Nat,i < j→clsT V (gt L i).c=true)→clsT V (gt L j).c=true))
theorem says_neg {op:Int} {q:Rat} (h:op=1∨op=2):says (3 - op) ((-1)*q)=!says op q:=by
 have e:((-1:Rat)*q).num.sign = -q.num.sign:=by
  rw [show (-1:Rat)*q = -q by grind,Rat.neg_num,Int.sign_neg]
 unfold says
 rw [e]
 rcases h with rfl | rfl
 ·rcases (show q.num.sign < 0∨q.num.sign=0∨0 < q.num.sign by omega) with h | h | h
  ·rw [show (-q.num.sign == 0)=false from beq_false_of_ne (by omega),decide_eq_false (show ¬ -q.num.sign < 0 by omega),show (q.num.sign == 0)=false from beq_false_of_ne (by omega),decide_eq_true h]
   rfl
  ·rw [h];rfl
  ·rw [show (-q.num.sign == 0)=false from beq_false_of_ne (by omega),decide_eq_true (show -q.num.sign < 0 by omega),show (q.num.sign == 0)=false from beq_false_of_ne (by omega),decide_eq_false (show ¬ q.num.sign < 0 by omega)]
   rfl
 ·rcases (show q.num.sign < 0∨q.num.sign=0∨0 < q.num.sign by omega) with h | h | h
  ·rw [show (-q.num.sign == 0)=false from beq_false_of_ne (by omega),decide_eq_false (show ¬ -q.num.sign < 0 by omega),show (q.num.sign == 0)=false from beq_false_of_ne (by omega),decide_eq_true h]
   rfl
  ·rw [h];rfl
  ·rw [show (-q.num.sign == 0)=false from beq_false_of_ne (by omega),decide_eq_true (show -q.num.sign < 0 by omega),show (q.num.sign == 0)=false from beq_false_of_ne (by omega),decide_eq_false (show ¬ q.num.sign < 0 by omega)]
   rfl
theorem holdA_opp {a:AT} {xs:List Rat} (h:a.2=1∨a.2=2):holdA (oppA a) xs=!holdA a xs:=by
 unfold holdA oppA
 dsimp only
 have e:(-1:Rat)*a.1.2+smv (cf (sclE (-1) a.1.1)) xs 0=(-1)*(a.1.2+smv (cf a.1.1) xs 0):=by
  have h1:smv (cf (sclE (-1) a.1.1)) xs 0=(-1)*smv (cf a.1.1) xs 0:=by
   rw [← smv_mul]
   congr 1
   funext x
   exact sclE_cf x
  rw [h1]
  grind
 rw [e,says_neg h]
theorem holdA_oppL {p:Pb} {bs:List Bool} {xs:List Rat} {l:Int} (h:oppOk p l) (h0:l≠0) (hop:∀ a∈p.ats,1≤a.2∧a.2≤3):holdA (oppL p l) xs=!tl (valP p bs xs) l:=by
 have hv:valP p bs xs l.natAbs=holdA (gt p.ats ((l.natAbs:Int) - 1 - p.B).toNat) xs:=by
  unfold valP
  rw [if_neg (by have:=h.1;omega)]
 unfold oppL tl
 rw [hv]
 have hm:gt p.ats ((l.natAbs:Int) - 1 - p.B).toNat∈p.ats:=gtm (by have h1:=h.1;have h2:=h.2.1;omega)
 by_cases hl:l < 0
 ·rw [if_pos hl,decide_eq_false (show ¬ 0 < l by omega)]
  cases holdA (gt p.ats ((l.natAbs:Int) - 1 - p.B).toNat) xs <;> rfl
 ·rw [if_neg hl,decide_eq_true (show 0 < l by omega),holdA_opp (by have h1:=hop _ hm;have h2:=h.2.2 (by omega);omega)]
  cases holdA (gt p.ats ((l.natAbs:Int) - 1 - p.B).toNat) xs <;> rfl
theorem oppA_op {p:Pb} {l:Int} (h:oppOk p l) (h0:l≠0) (hop:∀ a∈p.ats,1≤a.2∧a.2≤3):1≤(oppL p l).2∧(oppL p l).2≤3:=by
 have hm:gt p.ats ((l.natAbs:Int) - 1 - p.B).toNat∈p.ats:=gtm (by have h1:=h.1;have h2:=h.2.1;omega)
 have h1:=hop _ hm
 unfold oppL
 split
 ·exact h1
 ·have h2:=h.2.2 (by omega)
  unfold oppA
  dsimp only
  omega
theorem just_sound {p:Pb} {bs:List Bool} {xs:List Rat} {L:List St} {j:Nat} (hop:∀ a∈p.ats,1≤a.2∧a.2≤3) (h:JustOk p L j) (hh:holdsP p bs xs=true) (hb:∀ i,i < j→clsT (valP p bs xs) (gt L i).c=true):clsT (valP p bs xs) (gt L j).c=true:=by
 obtain ⟨hk,h1 | ⟨e,h2,h3⟩ | h4⟩:=h
 ·unfold holdsP at hh
  rw [List.all_eq_true] at hh
  exact hh _ h1
 ·refine Classical.byContradiction fun hn=>?_
  refine farkas_sound (P:=xs) h3 fun a ha=>?_
  obtain ⟨l,hl,rfl⟩:=List.mem_map.1 ha
  have h0:=(hk l hl).1
  have hlf:tl (valP p bs xs) l=false:=by
   cases ht:tl (valP p bs xs) l
   ·rfl
   ·exact absurd (clsT_mem.2 ⟨l,hl,ht⟩) hn
  exact ⟨by rw [holdA_oppL (bs:=bs) (h2 l hl) h0 hop,hlf];rfl,oppA_op (h2 l hl) h0 hop⟩
 ·exact h4 _ hb
theorem steps_sound {p:Pb} {bs:List Bool} {xs:List Rat} {L:List St} (hop:∀ a∈p.ats,1≤a.2∧a.2≤3) (hh:holdsP p bs xs=true):∀ n,(∀ j,j < n→JustOk p L j)→∀ j,j < n→clsT (valP p bs xs) (gt L j).c=true
 | 0,_,j,hj=>absurd hj (Nat.not_lt_zero _)
 | n+1,h,j,hj=>by
  have ih:=steps_sound hop hh n fun j hj=>h j (by omega)
  rcases Nat.lt_or_ge j n with h1 | h1
  ·exact ih j h1
  ·obtain rfl:j=n:=by omega
   exact just_sound hop (h j (by omega)) hh ih
end Go.Proofs.YtdooldpgnjmpfaaGreatDoor
