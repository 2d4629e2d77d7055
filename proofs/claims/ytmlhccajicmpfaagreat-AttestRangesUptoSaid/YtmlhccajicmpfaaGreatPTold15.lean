/- attestlaw15.Told: the program's network as the document's -/
import Derived.Test.YtmlhccajicmpfaaGreatSq
import Derived.Test.YtmlhccajicmpfaaGreatPOf15
import Derived.Test.YtmlhccajicmpfaaGreatPartBC
set_option maxHeartbeats 40000000
set_option maxRecDepth 100000
set_option linter.unusedSimpArgs false
namespace Go.Att
open Go.RowKit
def OwnLayG {ν:Type} (w0:World) (T:World→Value→ν→Prop) (e r:TypeId) (w:World) (v:Value) (l:Lay ν):Prop:=
 ∃ a b c,v=.agg #[.int .i64 l.K,a,b,c]∧OwnRow 1 (RowO 3 T e) r 0 w a l.W∧OwnRow 3 T e 0 w b l.B∧RdRow 1 (RowT 1 IntT) w0 c l.G
section
variable {ν:Type} {w0:World} {T S:World→Value→ν→Prop} {e r e':TypeId} {w w':World} {v:Value} {l:Lay ν}
theorem OwnLayG.ext (h:OwnLayG w0 T e r w v l) (hT:∀ {w w' v a},T w v a→Ext w w'→T w' v a) (x:Ext w w'):OwnLayG w0 T e r w' v l:=by
 obtain ⟨a,b,c,rfl,h1,h2,h3⟩:=h
 exact ⟨a,b,c,rfl,h1.ext (fun h x=>RowO.ext h hT x) x,h2.ext hT x,h3⟩
theorem OwnLayG.rd (h:OwnLayG w0 T e r w v l) (hTS:∀ v a,T w v a→S w v a) (x:Ext w0 w):RdLay S w v l:=by
 obtain ⟨a,b,c,rfl,h1,h2,h3⟩:=h
 exact ⟨a,b,c,rfl,RdRow.mono h1.rd fun _ _ h=>h.rd hTS,RdRow.mono h2.rd hTS,h3.ext (fun h x=>RowT.ext h IntT.ext x) x⟩
theorem cells_LayG {cs:List Value} (h:OwnLayG w0 T e r w (.agg cs.toArray) l):∃ a m b n c k,cs=[.int .i64 l.K,.slice a l.W.length m,.slice b l.B.length n,.slice c l.G.length k]:=by
 obtain ⟨a,b,c,he,h1,h2,h3⟩:=h
 obtain ⟨a,m,rfl,-,-⟩:=h1.rd.shape
 obtain ⟨b,n,rfl,-,-⟩:=h2.rd.shape
 obtain ⟨c,k,rfl,-,-⟩:=h3.shape
 have:cs.toArray=#[.int .i64 l.K,.slice a l.W.length m,.slice b l.B.length n,.slice c l.G.length k]:=by simpa using he
 exact ⟨a,m,b,n,c,k,by simpa using congrArg Array.toList this⟩
theorem kdLayG (hT:Kd e' T) (h1:e≠e') (h2:r≠e'):Kd e' (OwnLayG w0 T e r):=⟨fun h X=>h.ext hT.ext X,fun h hr hg=>by
 obtain ⟨a,b,c,rfl,k1,k2,k3⟩:=h
 exact ⟨a,b,c,rfl,OwnRow.grown k1 (fun _ _ h=>(kdO h1 hT).grown h hr hg) hr h2 hg,OwnRow.grown k2 (fun _ _ h=>hT.grown h hr hg) hr h1 hg,k3⟩,fun h u hu=>by
 obtain ⟨a,m,b,n,c,k,rfl⟩:=cells_LayG h
 simp at hu
 rcases hu with rfl | rfl | rfl | rfl <;> rfl⟩
theorem OwnLayG.putT {t:TypeId} {c m:Nat} (h:OwnLayG w0 T e r w v l) (hc:Rt w c m t) (h1:e≠t) (h2:r≠t) (i:Nat) (cs:List Value) (hT:∀ v a,T w v a→T (Att.putL w c i cs) v a):OwnLayG w0 T e r (Att.putL w c i cs) v l:=by
 obtain ⟨a,b,d,rfl,k1,k2,k3⟩:=h
 exact ⟨a,b,d,rfl,k1.putT hc h2 i cs (fun _ _ h=>h.putT hc h1 i cs hT),k2.putT hc h1 i cs hT,k3⟩
end
end Go.Att
namespace Go.Proofs.YtmlhccajicmpfaaGreat
open Go.RowKit Go.Att

abbrev TnN (w:World) (v:Value) (n:Rat):Prop:=OwnPp 4 w v n
abbrev TnW (w:World) (v:Value) (l:List Rat):Prop:=RowO 3 TnN 153 w v l
abbrev TnL (w0 w:World) (v:Value) (l:Lay Rat):Prop:=OwnLayG w0 TnN 153 93 w v l
theorem tnn_ext {w w':World} {v:Value} {a:Rat} (h:TnN w v a) (x:Ext w w'):TnN w' v a:=OwnP.ext h x
theorem tnw_ext {w w':World} {v:Value} {a:List Rat} (h:TnW w v a) (x:Ext w w'):TnW w' v a:=RowO.ext h OwnP.ext x
theorem tnl_ext {w0 w w':World} {v:Value} {a:Lay Rat} (h:TnL w0 w v a) (x:Ext w w'):TnL w0 w' v a:=OwnLayG.ext h OwnP.ext x
theorem etTr:ElemT Tryz.prog 121 93 (.slice none 0 0) 1 24:=ElemT.mk' Tryz.underlying121 kR rfl dC
theorem etTl:ElemT Tryz.prog 58 124 (.agg #[.int .i64 0,.slice none 0 0,.slice none 0 0,.slice none 0 0]) 4 80:=ElemT.mk' Tryz.underlying58 kR rfl dC
theorem kdTn {e':TypeId} (h:4≠e'):Kd e' TnN:=kdP h
theorem kdTw {e':TypeId} (h:4≠e') (h2:153≠e'):Kd e' TnW:=kdO h2 (kdTn h)
theorem OwnP.putT {e t:TypeId} {B c m:Nat} {w:World} {v:Value} {q:Rat} (h:OwnP e B w v q) (hc:Rt w c m t) (hne:e≠t) (i:Nat) (l:List Value):OwnP e B (Att.putL w c i l) v q:=by
 obtain ⟨n,d,rfl,h1,h2⟩:=h
 exact ⟨_,_,rfl,h1.putT hc hne i l,h2.putT hc hne i l⟩
def OwnNetG (w0 w:World) (v:Value) (n:Nt Rat):Prop:=∃ a,v=.agg #[.int .i64 n.1,a]∧OwnRow 4 (TnL w0) 124 0 w a n.2
theorem OwnNetG.rd {w0 w:World} {v:Value} {n:Nt Rat} (h:OwnNetG w0 w v n) (x:Ext w0 w):RdNet TnN w v n:=by
 obtain ⟨a,rfl,h⟩:=h
 exact ⟨a,rfl,RdRow.mono h.rd fun _ _ h=>h.rd (fun _ _ h=>h) x⟩
theorem OwnNetG.ext {w0 w w':World} {v:Value} {n:Nt Rat} (h:OwnNetG w0 w v n) (x:Ext w w'):OwnNetG w0 w' v n:=by
 obtain ⟨a,rfl,h⟩:=h
 exact ⟨a,rfl,h.ext tnl_ext x⟩
theorem OwnNetG.op {w0 w:World} {v:Value} {n:Nt Rat} (h:OwnNetG w0 w v n):∃ a c,v=.agg #[.int .i64 n.1,.slice a n.2.length c]∧Hid (OwnNetG w0 w (.agg #[.int .i64 n.1,.slice a n.2.length c]) n):=by
 have h0:=h
 obtain ⟨a,rfl,h⟩:=h
 obtain ⟨a,c,rfl,-,-⟩:=h.rd.shape
 exact ⟨a,c,rfl,h0⟩
theorem OwnNetG.putT {w0 w:World} {v:Value} {n:Nt Rat} {u:TypeId} {b m:Nat} (h:OwnNetG w0 w v n) (hc:Rt w b m u) (h0:124≠u) (h1:153≠u) (h2:93≠u) (h3:4≠u) (i:Nat) (cs:List Value):OwnNetG w0 (Att.putL w b i cs) v n:=by
 obtain ⟨a,rfl,h⟩:=h
 exact ⟨a,rfl,h.putT hc h0 i cs fun _ _ h=>OwnLayG.putT h hc h1 h2 i cs fun _ _ h=>OwnP.putT h hc h3 i cs⟩
def LvT (K:Int) (bs:List Rat) (gv:Value) (w:World) (v:Value):Prop:=∃ a k,v=.agg #[.int .i64 K,.slice none 0 0,.slice a bs.length k,gv]∧OwnRow 3 TnN 153 0 w (.slice a bs.length k) bs
theorem LvT.ext {K:Int} {bs:List Rat} {gv:Value} {w w':World} {v:Value} (h:LvT K bs gv w v) (x:Ext w w'):LvT K bs gv w' v:=by
 obtain ⟨a,k,rfl,h⟩:=h
 exact ⟨a,k,rfl,h.ext tnn_ext x⟩
def RnT (bs:List Rat) (w:World) (v:Value):Prop:=OwnRow 3 TnN 153 0 w v bs
theorem RnT.ext {bs:List Rat} {w w':World} {v:Value} (h:RnT bs w v) (x:Ext w w'):RnT bs w' v:=OwnRow.ext h tnn_ext x
theorem RnT.op {bs:List Rat} {w:World} {v:Value} (h:RnT bs w v):∃ a k,v=.slice a bs.length k∧RnT bs w (.slice a bs.length k):=by
 obtain ⟨a,c,rfl,-,-⟩:=(OwnRow.rd h).shape
 exact ⟨a,c,rfl,h⟩
theorem meetT {w0 wv:World} {B:Nat} {bs:List Rat} (rB:Rt wv B 4 124) (hx:Ext w0 wv) (hB:w0.heap.size≤B) {x0 x1 y x3:Value} (o:OwnRow 3 TnN 153 0 wv y bs):
  ∃ W,W=(((wv.setCell ⟨B,0,none⟩ x0).setCell ⟨B,1,none⟩ x1).setCell ⟨B,2,none⟩ y).setCell ⟨B,3,none⟩ x3∧Ext w0 W∧Hid (Bx W B [x0,x1,y,x3])∧Hid (Rt W B 4 124)∧Hid (OwnRow 3 TnN 153 0 W y bs):=
 ⟨Att.putL wv B 0 [x0,x1,y,x3],rfl,putL_below hB _ _ hx,qH (rB.putL_at [x0,x1,y,x3] rfl).1,qH (rB.putL_at [x0,x1,y,x3] rfl).2,qH (o.putT rB dC 0 _ fun _ _ h=>OwnP.putT h rB dC 0 _)⟩
theorem told15_own {w0 w:World} (hx0:Ext w0 w) {v:Value} {n:Nt Rat} (hv:RdNet RdQ w0 v n) (hl:lit n) (hs:∀ l∈n.2,(∀ r∈l.W,∀ p∈r,Sz 8 p)∧∀ p∈l.B,Sz 8 p):
  Calls Tryz.prog 32 #[v] w (Gives w fun v' w'=>OwnNetG w0 w' v' n):=by
 refine via fun R hR=>?_
 obtain ⟨z,ls⟩:=n
 obtain ⟨a,c,rfl,hlc,hcm,hr⟩:=hv.op
 have HV:=qH (hr.ext (fun h x=>RdLay.ext h RdQ.ext x) hx0)
 have HV0:=qH hr
 have HX0:=qH hx0
 have HZ:Hid (ls.length≤3):=hl.2.1
 have HLT:Hid (∀ l∈ls,litL l):=hl.2.2
 have HNL:Hid (∀ l∈ls,(∀ r∈l.W,∀ p∈r,Sz 8 p)∧∀ p∈l.B,Sz 8 p):=hs
 dsimp only at hlc hcm HV HV0
 unfold maxLen at hcm
 clear hv hr hl hs hx0
 obtain ⟨w1,hw1,b1,c1,-,-,-,-⟩:=bx2 w [.int .i64 z,.slice a ls.length c] [.int .i64 0,.slice none 0 0] 47 60
 have HW:=qH hw1
 have C1:=qH c1
 have R1:Hid (Rt w1 (w.heap.size+1) 2 60):=by
  show Rt _ _ _ _
  rw [hw1]
  have:=Rt.new (w.alloc (.cells #[.int .i64 z,.slice a ls.length c] 47)) [.int .i64 0,.slice none 0 0] 60
  simpa using this
 obtain ⟨j0,j1⟩:=c1.c2
 clear hw1 c1
 go_enter Tryz.func32,Tryz.ntmps32
 go_upto_region 1 with (fail)
 rw [← HW.out]
 clear HW
 go_cut [3] (fun s3 wx=>∃ E:Nat,s3=.pointer (some ⟨E,0,none⟩)∧w1.heap.size≤E∧Ext w1 wx∧Hid (Bx wx E [.int .i64 z,.slice none 0 0])∧Hid (Rt wx E 2 60))
 case first=>
  go_wp2_with fail
  go_meet
  exact ⟨_,rfl,Nat.le_refl _,Ext.alloc _ _,Bx.new w1 [_,_] _,Rt.new w1 [_,_] _⟩
 case rest=>
  obtain ⟨E,rfl,hE1,hX2,hC2,hR2⟩:=hcut
  obtain ⟨w2,hw2⟩:∃ w0:World,w0=wc:=⟨_,rfl⟩
  subst hw2
  have HE:=qH hE1
  clear hE1 j0 j1
  obtain ⟨j0,j1⟩:=(C1.out.ext hX2).c2
  go_wp2_with fail
  clear j0 j1
  go_loopw [15] (fun t wr=>∃ (i:Nat) (ao:Option Addr) (ko:Nat),t=.int .i64 i∧i≤ls.length∧Hid (Ext w1 wr)∧Hid (Bx wr E [.int .i64 z,.slice ao i ko])∧Hid (Rt wr E 2 60)∧Hid (OwnRow 4 (TnL w0) 124 w1.heap.size wr (.slice ao i ko) (ls.take i))) (fun t _=>ls.length - (intOf t).toNat)
  case atStart=>exact ⟨0,none,0,rfl,Nat.zero_le _,hX2,hC2,hR2,by rw [List.take_zero];exact OwnRow.nil _ _ _⟩
  case round=>
   clear hC2 hR2 hX2
   obtain ⟨i,ao,ko,rfl,hi,hX,hC,hRt,hO⟩:=hrel
   obtain ⟨wo,hwo⟩:∃ w0:World,w0=wr:=⟨_,rfl⟩
   subst hwo
   have hi3:=HZ.out
   by_cases hlt:i < ls.length
   ·have hd:=dT ((i:Int) < (ls.length:Int))
    have HJ1:IntKind.i64.wrap ((i:Int)+1)=((i+1:Nat):Int):=by rw [IntKind.wrap_i64];omega
    have HI2:(0:Int)≤(i:Int)∧(i:Int) < (ls.length:Int):=⟨by omega,by omega⟩
    have hxw:=eT b1 hX.out
    obtain ⟨bL,oL,ax,mx',ay,my,az,mz,hae,hbo,hRW,hRB,hRG⟩:=(HV.out.ext (fun h x=>RdLay.ext h RdQ.ext x) hxw).lay i hlt
    have HRG:Hid (RdRow 1 (RowT 1 IntT) w0 (.slice az ls[i].G.length mz) ls[i].G):=by
     obtain ⟨bL',oL',ax',mx'',ay',my',az',mz',hae',hbo',-,-,hRG'⟩:=HV0.out.lay i hlt
     rw [hae] at hae'
     simp only [Option.some.injEq,Addr.mk.injEq,and_true] at hae'
     obtain ⟨rfl,rfl⟩:=hae'
     have h3:=Ext.cell (eT HX0.out hxw) hbo'.c4.2.2.2
     rw [hbo.c4.2.2.2] at h3
     simp only [Option.some.injEq,Value.slice.injEq,true_and] at h3
     obtain ⟨rfl,rfl⟩:=h3
     exact hRG'
    clear hRG
    subst hae
    have HSN:Hid (ls.take (i+1)=ls.take i ++ [ls[i]]):=(List.take_append_getElem hlt).symm
    have HLL:Hid (litL ls[i]):=HLT.out _ (List.getElem_mem hlt)
    have HNN:Hid ((∀ r∈ls[i].W,∀ p∈r,Sz 8 p)∧∀ p∈ls[i].B,Sz 8 p):=HNL.out _ (List.getElem_mem hlt)
    obtain ⟨l,hl⟩:∃ l,ls[i]=l:=⟨_,rfl⟩
    rw [hl] at hbo hRW hRB HRG HSN HLL HNN
    clear hl
    have HRW:=qH hRW
    obtain ⟨u0,u1,u2,u3⟩:=hbo.c4
    obtain ⟨w4,hw4,b4,c4,-,-⟩:=bx1 wo [.int .i64 l.K,.slice ax l.W.length mx',.slice ay l.B.length my,.slice az l.G.length mz] 129
    have HW:=qH hw4
    have C4:=qH c4
    have HLE:=qH HLL.out.1
    have HON:Hid (∀ w',Ext wo w'→Calls Tryz.prog 22 #[.slice ay l.B.length my] w' (Gives w' fun v' w'=>OwnRow 3 TnN 153 0 w' v' l.B)):=fun w' x=>(nums_any (hRB.ext RdQ.ext x) (fun p hp=>(HNN.out.2 p hp).le dC) (by have:=HLE.out;omega)).mono fun _ _ ⟨v,e,b,o⟩=>⟨v,e,b,o.mono (Nat.zero_le _)⟩
    clear hw4 c4 hRW hRB hbo
    go_upto_region 5 with (fail)
    rw [← HW.out]
    clear HW u0 u1 u2 u3
    have hX4:=eT hX.out b4
    obtain ⟨u0,u1,u2,u3⟩:=C4.out.c4
    obtain ⟨bs,hbs⟩:∃ bs,l.B=bs:=⟨_,rfl⟩
    have SZ4:=qH C4.out.lt
    have C4B:Hid (Bx w4 wo.heap.size [.int .i64 l.K,.slice ax l.W.length mx',.slice ay bs.length my,.slice az l.G.length mz]):=by rw [← hbs];exact C4.out
    rw [hbs] at HON u2
    have HBS:=qH hbs
    clear hbs C4
    have C4:=C4B
    clear C4B
    go_cut [6] (fun s6 wx=>∃ (X:Nat) (ab:Option Addr) (kb:Nat),s6=.pointer (some ⟨X,0,none⟩)∧w4.heap.size≤X∧Ext w4 wx∧Hid (Bx wx X [.int .i64 l.K,.slice none 0 0,.slice ab bs.length kb,.slice az l.G.length mz])∧Hid (Rt wx X 4 124)∧Hid (OwnRow 3 TnN 153 0 wx (.slice ab bs.length kb) bs))
    case first=>
     as_aux_lemma=>
      clear u0 u1 u2 u3
      refine wp_region_noPanic ?_
      refine wp_region_held_drew (S:=fun w'=>w'.cell? ⟨wo.heap.size,0,none⟩=some (.int .i64 l.K)∧w'.cell? ⟨wo.heap.size,1,none⟩=some (.slice ax l.W.length mx')∧w'.cell? ⟨wo.heap.size,2,none⟩=some (.slice ay bs.length my)∧w'.cell? ⟨wo.heap.size,3,none⟩=some (.slice az l.G.length mz)) kR ((C4.out.ext (drew_ext w4)).c4) (fun hHeld=>?_)
      refine tkH 0 hHeld ?_
      simp only [jP,jJ]
      refine tkH 2 hHeld ?_
      simp only [jP,jJ]
      refine tkH 5 hHeld ?_
      simp only [jP,jJ]
      refine tkH 1 hHeld ?_
      simp only [jP,jJ]
      refine tkH 3 hHeld ?_
      simp only [jP,jJ]
      refine tkH 6 hHeld ?_
      simp only [jP,jJ]
      refine anyH_cap fun O Q9 AA hO hQ hA=>?_
      obtain ⟨SS,hSS⟩:∃ SS:World→Prop,Hid (SS=fun w'=>w'.cell? ⟨wo.heap.size,0,none⟩=some (.int .i64 l.K)∧w'.cell? ⟨wo.heap.size,1,none⟩=some (.slice ax l.W.length mx')∧w'.cell? ⟨wo.heap.size,2,none⟩=some (.slice ay bs.length my)∧w'.cell? ⟨wo.heap.size,3,none⟩=some (.slice az l.G.length mz)):=⟨_,rfl⟩
      have KP:Hid (∀ wv,Ext w4 wv→SS wv):=fun wv XE=>by rw [hSS.out];exact (C4.out.ext XE).c4
      have L2_8:∀ (wv:World) (v4 v7:Value) (B8:Nat),Hid (Ext w4 wv)→Hid (RnT bs wv v4)→Hid (LvT l.K bs (.slice az l.G.length mz) wv v7)→Hid (Rt wv B8 4 124)→Hid (w4.heap.size≤B8)→wpAnyH Tryz.prog .any O Q9 SS 1 #[true,true,true,true,true,true,true,true,true,false] (((AA.put (some 23) v4).put (some 26) v7).put (some 6) (.pointer (some ⟨B8,0,none⟩))) wv:=by
       intro wv v4 v7 B8 hX p4 p7 r8 s8
       have hO1:=hO.out
       have hQ1:=hQ.out
       have hA1:=hA.out
       subst hO1
       subst hQ1
       subst hA1
       have XE:=hX.out
       have hHeld:=KP.out _ XE
       have hS1:=hSS.out
       subst hS1
       try simp only [jP,jJ]
       have k0_8:wo.heap.size≠B8:=by have h1:=s8.out;have hz0:=SZ4.out;omega
       obtain ⟨a9,k9,rfl,OO⟩:=p7.out
       obtain ⟨_,_,_,_,i8_0,i8_1,i8_2,i8_3,f8_0,f8_1,f8_2,f8_3⟩:=r8.out.c4
       refine rdH 9 kR rfl (fun K hK=>?_)
       go_simp
       refine hK.out _ _ ((((((C4.out.ext XE).set1 k0_8 _ _).set1 k0_8 _ _).set1 k0_8 _ _).set1 k0_8 _ _).c4) (fun hHeld=>?_)
       clear hK K
       try simp only [jP,jJ]
       refine dnH kR ?_
       go_wp2_with fail
       go_meet
       obtain ⟨W,hW,hM1,hM2,hM3,hM4⟩:=meetT r8.out hX.out s8.out OO
       rw [← hW]
       exact ⟨B8,_,_,rfl,s8.out,hM1,hM2,hM3,hM4⟩
      have L1_8:∀ (wv:World) (v4:Value) (B8:Nat),Hid (Ext w4 wv)→Hid (RnT bs wv v4)→Hid (Rt wv B8 4 124)→Hid (w4.heap.size≤B8)→wpAnyH Tryz.prog .any O Q9 SS 2 #[true,true,true,true,true,true,true,false,true,false] ((AA.put (some 23) v4).put (some 6) (.pointer (some ⟨B8,0,none⟩))) wv:=by
       intro wv v4 B8 hX p4 r8 s8
       have hO1:=hO.out
       have hQ1:=hQ.out
       have hA1:=hA.out
       subst hO1
       subst hQ1
       subst hA1
       have XE:=hX.out
       have hHeld:=KP.out _ XE
       have hS1:=hSS.out
       subst hS1
       try simp only [jP,jJ]
       obtain ⟨a5,k5,rfl,o5⟩:=p4.out.op
       refine tkH 7 hHeld ?_
       simp only [jP,jJ]
       exact wpAnyH_at (L2_8 wv _ _ B8 hX.out p4.out (⟨_,_,rfl,o5⟩) r8.out s8.out) kR kR kR
      have L2_:∀ (wv:World) (v4 v7:Value),Hid (Ext w4 wv)→Hid (RnT bs wv v4)→Hid (LvT l.K bs (.slice az l.G.length mz) wv v7)→wpAnyH Tryz.prog .any O Q9 SS 2 #[true,true,true,true,true,true,true,true,false,false] ((AA.put (some 23) v4).put (some 26) v7) wv:=by
       intro wv v4 v7 hX p4 p7
       have hO1:=hO.out
       have hQ1:=hQ.out
       have hA1:=hA.out
       subst hO1
       subst hQ1
       subst hA1
       have XE:=hX.out
       try simp only [jP,jJ]
       refine rdH 8 kR rfl (fun K hK=>?_)
       go_simp
       refine hK.out _ _ (KP.out _ (eT XE (Ext.alloc _ _))) (fun _=>?_)
       clear hK K
       try simp only [jP,jJ]
       exact wpAnyH_at (L2_8 _ v4 v7 wv.heap.size (eT XE (Ext.alloc wv (.cells [.int .i64 0,.slice none 0 0,.slice none 0 0,.slice none 0 0].toArray 124))) (p4.out.ext (Ext.alloc wv (.cells [.int .i64 0,.slice none 0 0,.slice none 0 0,.slice none 0 0].toArray 124))) (p7.out.ext (Ext.alloc wv (.cells [.int .i64 0,.slice none 0 0,.slice none 0 0,.slice none 0 0].toArray 124))) (Rt.new wv [.int .i64 0,.slice none 0 0,.slice none 0 0,.slice none 0 0] 124) (Below.size XE)) kR kR kR
      have L0_8:∀ (wv:World) (B8:Nat),Hid (Ext w4 wv)→Hid (Rt wv B8 4 124)→Hid (w4.heap.size≤B8)→wpAnyH Tryz.prog .any O Q9 SS 3 #[true,true,true,true,false,true,true,false,true,false] (AA.put (some 6) (.pointer (some ⟨B8,0,none⟩))) wv:=by
       intro wv B8 hX r8 s8
       have hO1:=hO.out
       have hQ1:=hQ.out
       have hA1:=hA.out
       subst hO1
       subst hQ1
       subst hA1
       have XE:=hX.out
       try simp only [jP,jJ]
       refine rdH 4 kR rfl (fun K hK=>?_)
       go_simp
       go_at_call 22
       refine (HON.out _ (eT b4 XE)).mono ?_
       rintro e wn ⟨vn,rfl,bn,on⟩
       go_wp2_with fail
       refine hK.out _ _ (KP.out _ (eT XE bn)) (fun _=>?_)
       clear hK K
       try simp only [jP,jJ]
       exact wpAnyH_at (L1_8 wn vn B8 (eT XE bn) (on) (r8.out.ext bn) s8) kR kR kR
      have L1_:∀ (wv:World) (v4:Value),Hid (Ext w4 wv)→Hid (RnT bs wv v4)→wpAnyH Tryz.prog .any O Q9 SS 3 #[true,true,true,true,true,true,true,false,false,false] (AA.put (some 23) v4) wv:=by
       intro wv v4 hX p4
       have hO1:=hO.out
       have hQ1:=hQ.out
       have hA1:=hA.out
       subst hO1
       subst hQ1
       subst hA1
       have XE:=hX.out
       have hHeld:=KP.out _ XE
       have hS1:=hSS.out
       subst hS1
       try simp only [jP,jJ]
       obtain ⟨a5,k5,rfl,o5⟩:=p4.out.op
       refine tkH 7 hHeld ?_
       simp only [jP,jJ]
       exact wpAnyH_at (L2_ wv _ _ hX.out p4.out (⟨_,_,rfl,o5⟩)) kR kR kR
      have L0_:∀ (wv:World),Hid (Ext w4 wv)→wpAnyH Tryz.prog .any O Q9 SS 4 #[true,true,true,true,false,true,true,false,false,false] AA wv:=by
       intro wv hX
       have hO1:=hO.out
       have hQ1:=hQ.out
       have hA1:=hA.out
       subst hO1
       subst hQ1
       subst hA1
       have XE:=hX.out
       try simp only [jP,jJ]
       refine wpAnyH_ready (rs:=[4,8]) kR (by simp) ?_
       refine AllReadyH.cons (o:=_) rfl (fun K hK=>?_) (AllReadyH.cons (o:=_) rfl (fun K hK=>?_) AllReadyH.nil)
       ·skip
        go_simp
        go_at_call 22
        refine (HON.out _ (eT b4 XE)).mono ?_
        rintro e wn ⟨vn,rfl,bn,on⟩
        go_wp2_with fail
        refine hK.out _ _ (KP.out _ (eT XE bn)) (fun _=>?_)
        clear hK K
        try simp only [jP,jJ]
        exact wpAnyH_at (L1_ wn vn (eT XE bn) (on)) kR kR kR
       skip
       go_simp
       refine hK.out _ _ (KP.out _ (eT XE (Ext.alloc _ _))) (fun _=>?_)
       clear hK K
       try simp only [jP,jJ]
       exact wpAnyH_at (L0_8 _ wv.heap.size (eT XE (Ext.alloc wv (.cells [.int .i64 0,.slice none 0 0,.slice none 0 0,.slice none 0 0].toArray 124))) (Rt.new wv [.int .i64 0,.slice none 0 0,.slice none 0 0,.slice none 0 0] 124) (Below.size XE)) kR kR kR
      have hO1:=hO.out
      have hQ1:=hQ.out
      have hA1:=hA.out
      subst hO1
      subst hQ1
      subst hA1
      have hS1:=hSS.out
      subst hS1
      exact wpAnyH_at (L0_ w4.drew (drew_ext w4)) kR kR kR
    case rest=>
     as_aux_lemma=>
      obtain ⟨X,ab,kb,rfl,hXX,hX5,hC5,hR5,hB5⟩:=hcut
      obtain ⟨w5,hw5⟩:∃ w0:World,w0=wc:=⟨_,rfl⟩
      subst hw5
      have HXW:Hid (w4.heap.size≤X):=hXX
      clear hXX SZ4 u0 u1 u2 u3 HON
      obtain ⟨u0,u1,u2,u3⟩:=(C4.out.ext hX5).c4
      go_wp2_with fail
      clear u0 u1 u2 u3
      go_loopw [30] (fun t wr=>∃ (j:Nat) (sa:Option Addr) (sk:Nat),t=.int .i64 j∧j≤l.W.length∧Hid (Ext w4 wr)∧Hid (Bx wr X [.int .i64 l.K,.slice sa j sk,.slice ab bs.length kb,.slice az l.G.length mz])∧Hid (Rt wr X 4 124)∧Hid (OwnRow 3 TnN 153 0 wr (.slice ab bs.length kb) bs)∧Hid (OwnRow 1 TnW 93 w4.heap.size wr (.slice sa j sk) (l.W.take j))) (fun t _=>l.W.length - (intOf t).toNat)
      case atStart=>exact ⟨0,none,0,rfl,Nat.zero_le _,hX5,hC5,hR5,hB5,by rw [List.take_zero];exact OwnRow.nil _ _ _⟩
      case round=>
       clear hC5 hR5 hB5 hX5
       obtain ⟨j,sa,sk,rfl,hj,hx6,hC6,hRt6,hB6,hS6⟩:=hrel
       obtain ⟨w6,hw6⟩:∃ w0:World,w0=wr:=⟨_,rfl⟩
       subst hw6
       have hsz6:w4.heap.size≤w6.heap.size:=Below.size hx6.out
       by_cases hjl:j < l.W.length
       ·have hd1:=dT ((j:Int) < (l.W.length:Int))
        have HK1:IntKind.i64.wrap ((j:Int)+1)=((j+1:Nat):Int):=by have:=HLE.out;rw [IntKind.wrap_i64];omega
        have HK2:(0:Int)≤(j:Int)∧(j:Int) < (l.W.length:Int):=⟨by omega,by omega⟩
        obtain ⟨bW,oW,xr,mr,hxe,hcell,hrr⟩:=(HRW.out.ext (fun h x=>RowT.ext h RdQ.ext x) b4).row j hjl
        subst hxe
        replace hcell:=Ext.cell hx6.out hcell
        replace hrr:=hrr.ext RdQ.ext hx6.out
        have HSTm:Hid (l.W.take (j+1)=l.W.take j ++ [l.W[j]]):=(List.take_append_getElem hjl).symm
        have HRM:Hid (l.W[j]∈l.W):=List.getElem_mem hjl
        obtain ⟨rr,hr⟩:∃ r,l.W[j]=r:=⟨_,rfl⟩
        rw [hr] at hcell hrr HSTm HRM
        clear hr
        have HRR:=qH hrr
        clear hrr
        have HON2:Hid (∀ w',Ext w6 w'→Calls Tryz.prog 22 #[.slice xr rr.length mr] w' (Gives w' fun v' w'=>OwnRow 3 TnN 153 0 w' v' rr)):=fun w' x=>(nums_any (HRR.out.ext RdQ.ext x) (fun p hp=>(HNN.out.1 rr HRM.out p hp).le dC) (by have:=HLL.out.2.1 rr HRM.out;omega)).mono fun _ _ ⟨v,e,b,o⟩=>⟨v,e,b,o.mono (Nat.zero_le _)⟩
        obtain ⟨ws,hws⟩:∃ ws,l.W.take j=ws:=⟨_,rfl⟩
        have HSL:Hid (ws.length=j∧j≤4):=by rw [← hws,List.length_take];exact ⟨by omega,by have:=HLE.out.1;omega⟩
        rw [hws] at hS6 HSTm
        clear hws
        obtain ⟨ws2,hws2⟩:∃ ws,l.W.take (j+1)=ws:=⟨_,rfl⟩
        have HW2:Hid (ws2.length=j+1):=by show _=_;rw [← hws2,List.length_take];omega
        have HOE:=qH hws2
        rw [hws2] at HSTm
        have HST:=qH HSTm.out
        clear hws2 HSTm
        go_upto_region 9 with (fail)
        clear hcell
        have neS:=hS6.out.ne_rt hRt6.out dC
        have b7:=drew_ext w6
        have XE:=b7
        refine wp_region_noPanic ?_
        refine wp_region_cut_drew (st:=7) (S:=fun w'=>w'.cell? ⟨X,0,none⟩=some (.int .i64 l.K)∧w'.cell? ⟨X,1,none⟩=some (.slice sa j sk)∧w'.cell? ⟨X,2,none⟩=some (.slice ab bs.length kb)∧w'.cell? ⟨X,3,none⟩=some (.slice az l.G.length mz)) kR ((hC6.out.ext XE).c4) (fun hHeld=>?_)
        refine tkT 0 [7] hHeld ?_
        simp only [jP,jJ]
        refine tkT 1 [7] hHeld ?_
        simp only [jP,jJ]
        refine tkT 2 [7] hHeld ?_
        simp only [jP,jJ]
        refine rdT 3 kR rfl rF (fun K hK=>?_)
        go_simp
        go_at_call 22;refine (HON2.out _ XE).mono ?_;rintro e w8 ⟨v8,rfl,b8,o8⟩;have O8:=qH o8;clear o8;(first | have XE:=eT XE b8 | have XE:=eT (eT XE (Ext.alloc _ _)) b8);obtain ⟨ar,kr,rfl,hro⟩:=RowO.of O8.out
        go_wp2_with fail
        refine hK.out _ _ ((hC6.out.ext XE).c4) (fun hHeld=>?_)
        clear hK K
        try simp only [jP,jJ]
        refine rdT 4 kR rfl rF (fun K hK=>?_)
        refine if_wantedL rfl ?_
        refine build1K etTr rF (T:=TnW) tnw_ext rF [.slice ar rr.length kr] (fill_s1 ..) rfl dC (y:=rr) hro ?_
        intro g20 w20 x20 _ l20
        have XE:=eT XE x20
        have L20:=qH l20.rd
        clear l20
        refine hK.out _ _ ((hC6.out.ext XE).c4) (fun hHeld=>?_)
        clear hK K
        try simp only [jP,jJ]
        refine rdT 5 kR rfl rF (fun K hK=>?_)
        refine if_wantedL rfl ?_
        refine append_rowG etTr (kdTw dC dC) _ _ rF w4.heap.size rF (hS6.out.ext tnw_ext XE) rF L20.out (by have:=HSL.out;omega) (by have:=HSL.out;unfold maxLen;omega) (Nat.le_trans hsz6 (Below.size XE)) ?_
        intro v9 w9 o9 b9 g9 _
        have RO9:=qH ((hRt6.out.ext XE).grow g9 neS)
        have DO9:=qH ((hC6.out.ext XE).grow g9 neS)
        obtain ⟨nn,xs,hown⟩:=(hS6.out.ext tnw_ext XE).own
        have HB9:=qH (OwnRow.grown (hB6.out.ext tnn_ext XE) (fun _ _ h=>(kdTn dC).grown h hown g9) hown dC g9)
        have XW:=qH (Below.trans hx6.out (Below.trans (Below.mono XE hsz6) b9))
        have O9:Hid (OwnRow 1 TnW 93 w4.heap.size w9 v9 ws2):=(by rw [HST.out];exact o9)
        obtain ⟨a11,k11,he9,-,-⟩:=O9.out.rd.shape
        rw [HW2.out] at he9
        subst he9
        refine hK.out _ _ (DO9.out.c4) (fun hHeld=>?_)
        clear hK K o9 hown
        try simp only [jP,jJ]
        refine tkT 6 [7] hHeld ?_
        simp only [jP,jJ]
        obtain ⟨_,_,_,_,n0,n1,n2,n3,i0,i1,i2,i3⟩:=RO9.out.c4
        refine wpAnyT_ready (rs:=[7]) kR (by simp) ?_
        refine AllReadyT.cut (o:=_) rfl (fun K hK=>?_)
        go_simp
        refine hK.out _ _ ?_
        clear hK K
        try simp only [jP,jJ]
        refine wpAny_done kR ?_ _
        refine NoPanic.normal ?_
        go_wp2_with fail
        go_roundw
        case rel=>exact ⟨j+1,a11,k11,by go_num,by omega,putL_below HXW.out [_] 1 XW.out,DO9.out.setAt RO9.out 1 dC _,RO9.out.setAt 1 _,HB9.out.putT RO9.out dC 1 [_] (fun _ _ h=>OwnP.putT h RO9.out dC 1 [_]),by rw [HOE.out];exact O9.out.putT RO9.out dC 1 [_] (fun _ _ h=>RowO.putT h RO9.out dC 1 [_] fun _ _ h=>OwnP.putT h RO9.out dC 1 [_])⟩
        simp [intOf]<;>omega
       obtain rfl:j=l.W.length:=by omega
       have hd1:=dF ((l.W.length:Int) < (l.W.length:Int))
       have HTW:Hid (l.W.take l.W.length=l.W):=by show _=_;rw [List.take_length]
       rw [HTW.out] at hS6
       clear HTW hj
       have HEL:Hid (TnL w0 w6 (.agg #[.int .i64 l.K,.slice sa l.W.length sk,.slice ab bs.length kb,.slice az l.G.length mz]) l):=⟨_,_,_,rfl,hS6.out.mono (Nat.zero_le _),by rw [HBS.out];exact hB6.out,HRG.out⟩
       clear hS6 hB6 HBS HLL HRG HRW
       obtain ⟨ol,hol⟩:∃ ol,ls.take i=ol:=⟨_,rfl⟩
       have HOL:Hid (ol.length=i∧i≤3):=by rw [← hol,List.length_take];exact ⟨by omega,by have:=HZ.out;omega⟩
       rw [hol] at HSN hO
       clear hol
       obtain ⟨ol2,hol2⟩:∃ ol,ls.take (i+1)=ol:=⟨_,rfl⟩
       have HO2:Hid (ol2.length=i+1):=by show _=_;rw [← hol2,List.length_take];omega
       have HOE:=qH hol2
       rw [hol2] at HSN
       clear hol2
       have h17:=eT hX4 hx6.out
       have hw7:Ext wo w6:=eT b4 hx6.out
       obtain ⟨x0,x1,x2,x3⟩:=hC6.out.c4
       obtain ⟨q0,q1⟩:=(hC.out.ext hw7).c2
       have neE:=hO.out.ne_rt hRt.out dC
       go_upto_region 11 with (fail)
       go_wp2_with (refine build1W etTl rF rF (T:=TnL w0) tnl_ext rF [.int .i64 l.K,.slice sa l.W.length sk,.slice ab bs.length kb,.slice az l.G.length mz] (fill_l1 ..) rfl dC HEL.out ?_;intro g8 w8 x8 _ l8;refine append_rowGL etTl (kdLayG (kdTn dC) dC dC) rF _ _ rF w1.heap.size rF (hO.out.ext tnl_ext (eT hw7 x8)) rF l8.rd (by have:=HOL.out;omega) (by unfold maxLen;have:=HOL.out;omega) (Below.size (eT h17 x8)) ?_;intro v9 w9 o9 b9 g9 _;have RE9:=qH ((hRt.out.ext (eT hw7 x8)).grow g9 neE);have CE9:=qH ((hC.out.ext (eT hw7 x8)).grow g9 neE);have O9:Hid (OwnRow 4 (TnL w0) 124 w1.heap.size w9 v9 ol2):=(by rw [HSN.out];exact o9);have XW:=qH (Below.trans (eT h17 x8) b9);obtain ⟨a11,k11,he9,-,-⟩:=O9.out.rd.shape;rw [HO2.out] at he9;subst he9;obtain ⟨_,_,e0,e1,f0,f1⟩:=RE9.out.c2)
       go_roundw
       case rel=>exact ⟨i+1,a11,k11,by go_num,by omega,putL_below HE.out [_] 1 XW.out,CE9.out.setAt RE9.out 1 dC _,RE9.out.setAt 1 _,by rw [HOE.out];exact O9.out.putT RE9.out dC 1 [_] (fun _ _ h=>OwnLayG.putT h RE9.out dC dC 1 [_] fun _ _ h=>OwnP.putT h RE9.out dC 1 [_])⟩
       simp [intOf]<;>omega
   obtain rfl:i=ls.length:=by omega
   have hd:=dF ((ls.length:Int) < (ls.length:Int))
   obtain ⟨q0,q1⟩:=hC.out.c2
   obtain ⟨_,_,r0,r1,g0,g1⟩:=(R1.out.ext hX.out).c2
   have HT:Hid (ls.take ls.length=ls):=by show _=_;rw [List.take_length]
   rw [HT.out] at hO
   go_wp2_with fail
   refine bodyPost_ret (v:=.agg #[.int .i64 z,.slice ao ls.length ko]) (by simp [results,Tryz.results32,go_sem,r0,r1]) rfl ?_
   have xw:=putL_below (show w.heap.size≤w.heap.size+1 by omega) [.int .i64 z,.slice ao ls.length ko] 0 (eT b1 hX.out)
   exact hR.out _ _ (Gives.mk xw ⟨_,rfl,(hO.out.mono (Nat.zero_le _)).putT (R1.out.ext hX.out) dC 0 [_,_] (fun _ _ h=>OwnLayG.putT h (R1.out.ext hX.out) dC dC 0 [_,_] fun _ _ h=>OwnP.putT h (R1.out.ext hX.out) dC 0 [_,_])⟩)
end Go.Proofs.YtmlhccajicmpfaaGreat
