/- A group of texts: PLight19, AtomY -/
import Derived.Test.YtmlhccajicmpfaaGreatSq
import Derived.Test.YtmlhccajicmpfaaGreatPartCD
import Derived.Test.YtmlhccajicmpfaaGreatPartDH
import Derived.Test.YtmlhccajicmpfaaGreatPartBD
import Derived.Test.YtmlhccajicmpfaaGreatPartAF
set_option maxHeartbeats 40000000
set_option maxRecDepth 100000
set_option linter.unusedSimpArgs false
namespace Go.Att
open Go.RowKit
theorem OwnNPp.putT {e t:TypeId} {c m:Nat} {w:World} {v:Value} {p:NN × NN} (h:OwnNPp e w v p) (hc:Rt w c m t) (hne:e≠t) (i:Nat) (l:List Value):OwnNPp e (Att.putL w c i l) v p:=by
 obtain ⟨_,_,_,_,_,_,rfl,h1,h2⟩:=h
 exact ⟨_,_,_,_,_,_,rfl,h1.putT hc hne i l,h2.putT hc hne i l⟩
theorem OwnNA.putT {e t u:TypeId} {c m:Nat} {w:World} {v:Value} {p:NAT} (h:OwnNA e t w v p) (hc:Rt w c m u) (h1:e≠u) (h2:t≠u) (i:Nat) (l:List Value):OwnNA e t (Att.putL w c i l) v p:=by
 obtain ⟨s,y,z,rfl,g1,g2⟩:=h
 exact ⟨s,y,z,rfl,g1.putT hc h2 i l fun _ _ h=>h.putT hc h1 i l,g2.putT hc h1 i l⟩
end Go.Att
namespace Go.Proofs.YtmlhccajicmpfaaGreat
open Go.RowKit Go.Att

theorem etBx:ElemT Tryz.prog 25 104 (.agg #[.bool false,.slice none 0 0,.slice none 0 0,.bool false,.slice none 0 0,.slice none 0 0]) 6 112:=ElemT.mk' Tryz.underlying25 kR rfl dC
def cutB (p:NAT):NAT:=(((p.1.1.take 12).map cutT,oneN p.1.2),p.2)
theorem cutb_snoc {l:List NAT} {i:Nat} (hi:i < l.length):(l.take (i+1)).map cutB=(l.take i).map cutB ++ [cutB (gt l i)]:=by
 rw [← List.take_append_getElem hi,List.map_append,gt_lt hi];rfl
def prO (p:Pr (NN × NN) NAT):Pr (NN × NN) NAT:=((p.1.take 40).map oneND,(p.2.1.take 210).map cutB,p.2.2)
abbrev OnPr (w0 w:World) (v:Value) (p:Pr (NN × NN) NAT):Prop:=OwnPr w0 OnP OwnCa 104 109 w v p
def OnQ (w0 w:World) (v:Value) (n:Nt NN) (p:Pr (NN × NN) NAT):Prop:=
 ∃ a c ab cb aa ca x k,v=.agg #[.int .i64 n.1,.slice a n.2.length c,.slice ab p.1.length cb,.slice aa p.2.1.length ca,.int .i64 p.2.2.k,.int .i64 p.2.2.a,.slice x p.2.2.sub.length k]∧
  OnNet w (.agg #[.int .i64 n.1,.slice a n.2.length c]) n∧OnPr w0 w (.agg #[.slice ab p.1.length cb,.slice aa p.2.1.length ca,.int .i64 p.2.2.k,.int .i64 p.2.2.a,.slice x p.2.2.sub.length k]) p
theorem OnQ.op {w0 w:World} {v:Value} {n:Nt NN} {p:Pr (NN × NN) NAT} (h:OnQ w0 w v n p):∃ a c ab cb aa ca x k,v=.agg #[.int .i64 n.1,.slice a n.2.length c,.slice ab p.1.length cb,.slice aa p.2.1.length ca,.int .i64 p.2.2.k,.int .i64 p.2.2.a,.slice x p.2.2.sub.length k]∧Hid (OnQ w0 w (.agg #[.int .i64 n.1,.slice a n.2.length c,.slice ab p.1.length cb,.slice aa p.2.1.length ca,.int .i64 p.2.2.k,.int .i64 p.2.2.a,.slice x p.2.2.sub.length k]) n p):=by
 have h0:=h
 obtain ⟨a,c,ab,cb,aa,ca,x,k,rfl,-,-⟩:=h
 exact ⟨a,c,ab,cb,aa,ca,x,k,rfl,h0⟩
theorem OnQ.ext {w0 w w':World} {v:Value} {n:Nt NN} {p:Pr (NN × NN) NAT} (h:OnQ w0 w v n p) (x:Ext w w'):OnQ w0 w' v n p:=by
 obtain ⟨a,c,ab,cb,aa,ca,y,k,rfl,h1,h2⟩:=h
 exact ⟨a,c,ab,cb,aa,ca,y,k,rfl,OwnNet.ext h1 onn_ext x,OwnPr.ext h2 OwnNPp.ext OwnNA.ext x⟩
theorem OnQ.rd {w0 w:World} {v:Value} {n:Nt NN} {p:Pr (NN × NN) NAT} (h:OnQ w0 w v n p) (x:Ext w0 w):RdQy RdNp RdNDp RdNA w v (n,p):=by
 obtain ⟨a,c,ab,cb,aa,ca,y,k,rfl,h1,h2⟩:=h
 exact ⟨_,_,_,_,_,_,rfl,OwnNet.rd h1 fun _ _ h=>OwnN.rd h,OwnPr.rd h2 (fun _ _ h=>OwnNPp.rd h) (fun _ _ h=>OwnNA.rd h) x⟩
theorem OnQ.putT {w0 w:World} {v:Value} {n:Nt NN} {p:Pr (NN × NN) NAT} {b m:Nat} (h:OnQ w0 w v n p) (hc:Rt w b m 33) (i:Nat) (cs:List Value):OnQ w0 (Att.putL w b i cs) v n p:=by
 obtain ⟨a,c,ab,cb,aa,ca,y,k,rfl,h1,h2⟩:=h
 exact ⟨a,c,ab,cb,aa,ca,y,k,rfl,OwnNet.putT h1 hc dC dC dC dC dC i cs fun _ _ h=>OwnN.putT h hc dC i cs,OwnPr.putT h2 hc dC dC i cs (fun _ _ h=>OwnNPp.putT h hc dC i cs) fun _ _ h=>OwnNA.putT h hc dC dC i cs⟩
theorem light19_any {w0 w:World} (hx0:Ext w0 w) {v:Value} {q:Nt NN × Pr (NN × NN) NAT} (hv:RdQy RdNp RdNDp RdNA w0 v q):
  Calls Tryz.prog 6 #[v] w (Gives w fun v' w'=>∃ o b k,v'=.tuple #[o,.bool b]∧(b=true↔lit q.1)∧OnQ w0 w' o (q.1.1,(q.1.2.take k).map (mapLay oneN)) (prO q.2)∧k≤3∧(∀ l∈q.1.2.take k,litL l)∧(b=true→q.1.2.take k=q.1.2)):=by
 refine via fun R hR=>?_
 obtain ⟨a0,c0,a,c,a',c',x,k,rfl,hN,hB,hA,hF⟩:=hv.op
 have HVB:=qH (hB.ext RdNDp.ext hx0)
 have HVA:=qH (hA.ext RdNA.ext hx0)
 have HVF:=qH hF
 have HLN:=qH fun w' (xx:Ext w w')=>lightK_any (hN.ext RdNp.ext (eT hx0 xx))
 obtain ⟨n,bx,ats,fm⟩:=q
 dsimp only at*
 clear hv hN hB hA hF hx0
 obtain ⟨w1,hw1,b1,c1,-,-,-,-⟩:=bx2 w [.int .i64 n.1,.slice a0 n.2.length c0,.slice a bx.length c,.slice a' ats.length c',.int .i64 fm.k,.int .i64 fm.a,.slice x fm.sub.length k] [.int .i64 0,.slice none 0 0,.slice none 0 0,.slice none 0 0,.int .i64 0,.int .i64 0,.slice none 0 0] 33 33
 have HW:=qH hw1
 have C1:=qH c1
 have R1:Hid (Rt w1 (w.heap.size+1) 7 33):=by
  show Rt _ _ _ _
  rw [hw1]
  have:=Rt.new (w.alloc (.cells #[.int .i64 n.1,.slice a0 n.2.length c0,.slice a bx.length c,.slice a' ats.length c',.int .i64 fm.k,.int .i64 fm.a,.slice x fm.sub.length k] 33)) [.int .i64 0,.slice none 0 0,.slice none 0 0,.slice none 0 0,.int .i64 0,.int .i64 0,.slice none 0 0] 33
  simpa using this
 obtain ⟨j0,j1,j2,j3,j4,j5,j6⟩:=c1.c7
 clear hw1 c1
 generalize hfk:fm.k=fk at*
 generalize hfa:fm.a=fa at*
 generalize hfn:fm.sub.length=fn at*
 have HFK:=qH (And.intro hfk (And.intro hfa hfn))
 clear hfk hfa hfn
 go_enter Tryz.func6,Tryz.ntmps6
 go_upto_region 1 with (fail)
 rw [← HW.out]
 clear HW
 go_wp2_with fail
 refine (HLN.out _ b1).mono ?_
 rintro e w2 ⟨_,rfl,b2,o,b,kk,rfl,hb,ho,hk3,hkl,hkt,-⟩
 clear j0 j1 j2 j3 j4 j5 j6 HLN
 have hFin:Hid (∀ w' o,OnQ w0 w' o (n.1,(n.2.take kk).map (mapLay oneN)) ((bx.take 40).map oneND,(ats.take 210).map cutB,fm)→Ext w w'→R (.returned (.tuple #[o,.bool b])) w'):=fun w' o h1 h2=>hR.out _ _ (Gives.mk h2 ⟨o,b,kk,rfl,hb,h1,hk3,hkl,hkt⟩)
 clear hR hb hk3 hkl hkt
 obtain ⟨n',hn'⟩:∃ n',((n.1,(n.2.take kk).map (mapLay oneN)):Nt NN)=n':=⟨_,rfl⟩
 rw [hn'] at hFin ho
 clear hn'
 obtain ⟨an,cn,rfl,HNW⟩:=OwnNet.op2 ho
 clear ho
 generalize n.1=nz at*
 generalize n.2.length=ln0 at*
 obtain ⟨w3,hw3,b3,c3,-,-⟩:=bx1 w2 [.int .i64 n'.1,.slice an n'.2.length cn] 24
 have HW:=qH hw3
 have C3:=qH c3
 clear hw3 c3
 go_upto_region 2 with (fail)
 rw [← HW.out]
 clear HW
 have b13:Ext w1 w3:=eT b2 b3
 have b03:Ext w w3:=eT b1 b13
 obtain ⟨j0,j1,j2,j3,j4,j5,j6⟩:=(C1.out.ext b13).c7
 obtain ⟨k0,k1⟩:=C3.out.c2
 go_cut [6] (fun s6 wx=>∃ E:Nat,s6=.pointer (some ⟨E,0,none⟩)∧w3.heap.size≤E∧Ext w3 wx∧Hid (Bx wx E [.int .i64 n'.1,.slice an n'.2.length cn,.slice none 0 0,.slice none 0 0,.int .i64 fk,.int .i64 fa,.slice x fn k])∧Hid (Rt wx E 7 33))
 case first=>
  go_wp2_with fail
  go_meet
  exact ⟨_,rfl,Nat.le_refl _,Ext.alloc _ _,Bx.new w3 [_,_,_,_,_,_,_] _,Rt.new w3 [_,_,_,_,_,_,_] _⟩
 case rest=>
  obtain ⟨E,rfl,hE1,hX2,hC2,hR2⟩:=hcut
  obtain ⟨w4,hw4⟩:∃ w0:World,w0=wc:=⟨_,rfl⟩
  subst hw4
  have HE:=qH hE1
  clear hE1 j0 j1 j2 j3 j4 j5 j6 k0 k1 C3
  go_wp2_with fail
  go_loopw [7] (fun t wr=>∃ (i:Nat) (ao:Option Addr) (ko:Nat),t=.int .i64 i∧i≤bx.length∧i≤40∧Hid (Ext w3 wr)∧Hid (Bx wr E [.int .i64 n'.1,.slice an n'.2.length cn,.slice ao i ko,.slice none 0 0,.int .i64 fk,.int .i64 fa,.slice x fn k])∧Hid (Rt wr E 7 33)∧Hid (OwnRow 6 OnP 104 w3.heap.size wr (.slice ao i ko) ((bx.take i).map oneND))) (fun t _=>40 - (intOf t).toNat)
  case atStart=>exact ⟨0,none,0,rfl,Nat.zero_le _,Nat.zero_le _,hX2,hC2,hR2,by rw [List.take_zero];exact OwnRow.nil _ _ _⟩
  case round=>
   clear hC2 hR2 hX2
   obtain ⟨i,ao,ko,rfl,hi,hi40,hX,hC,hRt,hO⟩:=hrel
   obtain ⟨w5,hw5⟩:∃ w0:World,w0=wr:=⟨_,rfl⟩
   subst hw5
   have hsz5:w3.heap.size≤w5.heap.size:=Below.size hX.out
   have CP:=qH (C1.out.ext (eT b13 hX.out))
   obtain ⟨u0,u1,u2,u3,u4,u5,u6⟩:=CP.out.c7
   clear u0 u1 u3 u4 u5 u6
   go_upto_region 4 with (fail)
   go_cut [33] (fun s17 wx=>s17=.bool (decide (i < bx.length∧i < 40))∧w5=wx)
   case first=>
    by_cases hlt:i < bx.length
    ·have hd:=dT ((i:Int) < (bx.length:Int))
     by_cases h40:i < 40
     ·have hd4:=dT ((i:Int) < 40)
      go_wp2_with fail
      go_meet
      exact ⟨by simp [hlt,h40],rfl⟩
     have hd4:=dF ((i:Int) < 40)
     go_wp2_with fail
     go_meet
     exact ⟨by simp [h40],rfl⟩
    have hd:=dF ((i:Int) < (bx.length:Int))
    go_wp2_with fail
    go_meet
    exact ⟨by simp [hlt],rfl⟩
   case rest=>
    obtain ⟨rfl,rfl⟩:=hcut
    by_cases hb:i < bx.length∧i < 40
    ·rw [decide_eq_true hb]
     have hilt:i < bx.length:=hb.1
     have HB40:Hid (i < 40):=hb.2
     have HJ1:IntKind.i64.wrap ((i:Int)+1)=((i+1:Nat):Int):=by rw [IntKind.wrap_i64];omega
     have HI2:(0:Int)≤(i:Int)∧(i:Int) < (bx.length:Int):=⟨by omega,by omega⟩
     obtain ⟨bB,oB,cs,hae,hcl,hT,hc⟩:=HVB.out.at dC i hb.1
     subst hae
     obtain ⟨x0,x1,x2,x3,x4,x5,rfl⟩:=cells_ND hT
     have CB0:Hid (Bo w bB (oB+i*6) [x0,x1,x2,x3,x4,x5]):=Bo.of hc
     have CB:=qH (CB0.out.ext (eT b03 hX.out))
     have HSN:=qH (take_map_snoc oneND hb.1)
     have HT3:=qH (RdNDp.ext hT (eT b03 hX.out)).two
     obtain ⟨y0,y1,y2,y3,y4,y5,rfl,rfl⟩:=RdNp.sl HT3.out.1
     obtain ⟨z0,z1,z2,z3,z4,z5,rfl,rfl⟩:=RdNp.sl HT3.out.2
     have HQ1:Hid (∀ w',Ext w5 w'→Calls Tryz.prog 26 #[.agg #[x0,.slice y0 y1 y2,.slice y3 y4 y5]] w' (Gives w' fun v' w'=>OwnN 156 w' v' (oneND bx[i]).1)):=fun w' xx=>one16_own (HT3.out.1.ext xx)
     have HQ2:Hid (∀ w',Ext w5 w'→Calls Tryz.prog 26 #[.agg #[x3,.slice z0 z1 z2,.slice z3 z4 z5]] w' (Gives w' fun v' w'=>OwnN 156 w' v' (oneND bx[i]).2)):=fun w' xx=>one16_own (HT3.out.2.ext xx)
     clear hT hc hcl HT3
     obtain ⟨q,hq⟩:∃ q,oneND bx[i]=q:=⟨_,rfl⟩
     rw [hq] at HSN HQ1 HQ2
     clear hq
     obtain ⟨ol,hol⟩:∃ ol,(bx.take i).map oneND=ol:=⟨_,rfl⟩
     have HSL:Hid (ol.length=i∧i≤40):=by rw [← hol,List.length_map,List.length_take];exact ⟨by omega,by omega⟩
     rw [hol] at hO HSN
     clear hol
     obtain ⟨ol2,hol2⟩:∃ ol,(bx.take (i+1)).map oneND=ol:=⟨_,rfl⟩
     have HW2:Hid (ol2.length=i+1):=by show _=_;rw [← hol2,List.length_map,List.length_take];omega
     have HOE:=qH hol2
     rw [hol2] at HSN
     have HST:=qH HSN.out
     clear hol2 HSN
     go_upto_region 6 with (fail)
     clear u2
     have neS:=hO.out.ne_rt hRt.out dC
     have b6:=drew_ext w5
     have XE:=b6
     refine wp_region_noPanic ?_
     refine wp_region_cut_drew (st:=24) (S:=fun w'=>(w'.cell? ⟨E,0,none⟩=some (.int .i64 n'.1)∧w'.cell? ⟨E,1,none⟩=some (.slice an n'.2.length cn)∧w'.cell? ⟨E,2,none⟩=some (.slice ao i ko)∧w'.cell? ⟨E,3,none⟩=some (.slice none 0 0)∧w'.cell? ⟨E,4,none⟩=some (.int .i64 fk)∧w'.cell? ⟨E,5,none⟩=some (.int .i64 fa)∧w'.cell? ⟨E,6,none⟩=some (.slice x fn k))∧(w'.cell? ⟨w.heap.size,0,none⟩=some (.int .i64 nz)∧w'.cell? ⟨w.heap.size,1,none⟩=some (.slice a0 ln0 c0)∧w'.cell? ⟨w.heap.size,2,none⟩=some (.slice (some ⟨bB,oB,none⟩) bx.length c)∧w'.cell? ⟨w.heap.size,3,none⟩=some (.slice a' ats.length c')∧w'.cell? ⟨w.heap.size,4,none⟩=some (.int .i64 fk)∧w'.cell? ⟨w.heap.size,5,none⟩=some (.int .i64 fa)∧w'.cell? ⟨w.heap.size,6,none⟩=some (.slice x fn k))∧(w'.cell? ⟨bB,oB+i*6,none⟩=some (x0)∧w'.cell? ⟨bB,oB+i*6+1,none⟩=some (.slice y0 y1 y2)∧w'.cell? ⟨bB,oB+i*6+2,none⟩=some (.slice y3 y4 y5)∧w'.cell? ⟨bB,oB+i*6+3,none⟩=some (x3)∧w'.cell? ⟨bB,oB+i*6+4,none⟩=some (.slice z0 z1 z2)∧w'.cell? ⟨bB,oB+i*6+5,none⟩=some (.slice z3 z4 z5))) kR (⟨(hC.out.ext XE).c7,(CP.out.ext XE).c7,(CB.out.ext XE).c6⟩) (fun hHeld=>?_)
     refine tkT 0 [24] hHeld ?_
     simp only [jP,jJ]
     refine tkT 1 [24] hHeld ?_
     simp only [jP,jJ]
     refine tkT 2 [24] hHeld ?_
     simp only [jP,jJ]
     refine tkT 3 [24] hHeld ?_
     simp only [jP,jJ]
     refine tkT 4 [24] hHeld ?_
     simp only [jP,jJ]
     refine tkT 5 [24] hHeld ?_
     simp only [jP,jJ]
     refine tkT 6 [24] hHeld ?_
     simp only [jP,jJ]
     refine tkT 7 [24] hHeld ?_
     simp only [jP,jJ]
     refine tkT 8 [24] hHeld ?_
     simp only [jP,jJ]
     refine tkT 9 [24] hHeld ?_
     simp only [jP,jJ]
     refine tkT 11 [24] hHeld ?_
     simp only [jP,jJ]
     refine tkT 12 [24] hHeld ?_
     simp only [jP,jJ]
     refine tkT 13 [24] hHeld ?_
     simp only [jP,jJ]
     refine tkT 14 [24] hHeld ?_
     simp only [jP,jJ]
     refine tkT 15 [24] hHeld ?_
     simp only [jP,jJ]
     refine tkT 16 [24] hHeld ?_
     simp only [jP,jJ]
     refine tkT 17 [24] hHeld ?_
     simp only [jP,jJ]
     refine rdT 10 kR rfl rF (fun K hK=>?_)
     go_simp
     go_at_call 26;refine (HQ1.out _ XE).mono ?_;rintro e w7 ⟨v7,rfl,b7,o7⟩;have O7:=qH o7;clear o7;(first | have XE:=eT XE b7 | have XE:=eT (eT XE (Ext.alloc _ _)) b7);obtain ⟨e1,e2,e3,e4,e5,e6,rfl,P7⟩:=O7.out.op
     go_wp2_with fail
     refine hK.out _ _ (⟨(hC.out.ext XE).c7,(CP.out.ext XE).c7,(CB.out.ext XE).c6⟩) (fun hHeld=>?_)
     clear hK K
     try simp only [jP,jJ]
     refine rdT 18 kR rfl rF (fun K hK=>?_)
     go_simp
     go_at_call 26;refine (HQ2.out _ XE).mono ?_;rintro e w8 ⟨v8,rfl,b8,o8⟩;have O8:=qH o8;clear o8;(first | have XE:=eT XE b8 | have XE:=eT (eT XE (Ext.alloc _ _)) b8);obtain ⟨f1,f2,f3,f4,f5,f6,rfl,P8⟩:=O8.out.op;have P7:=qH (OwnN.ext P7.out b8)
     go_wp2_with fail
     refine hK.out _ _ (⟨(hC.out.ext XE).c7,(CP.out.ext XE).c7,(CB.out.ext XE).c6⟩) (fun hHeld=>?_)
     clear hK K
     try simp only [jP,jJ]
     refine tkT 19 [24] hHeld ?_
     simp only [jP,jJ]
     refine rdT 20 kR rfl rF (fun K hK=>?_)
     refine if_wantedL rfl ?_
     refine build1K etBx rF (T:=OnP) onp_ext rF [.bool q.1.1,.slice e1 e2 e3,.slice e4 e5 e6,.bool q.2.1,.slice f1 f2 f3,.slice f4 f5 f6] (fill_d1 ..) rfl dC (y:=q) ⟨_,_,_,_,_,_,rfl,P7.out,P8.out⟩ ?_
     intro g20 w20 x20 _ l20
     have XE:=eT XE x20
     have L20:=qH l20.rd
     clear l20
     refine hK.out _ _ ⟨(hC.out.ext XE).c7,(CP.out.ext XE).c7,(CB.out.ext XE).c6⟩ (fun hHeld=>?_)
     clear hK K
     try simp only [jP,jJ]
     refine rdT 21 kR rfl rF (fun K hK=>?_)
     refine if_wantedL rfl ?_
     refine append_rowG etBx (kdNP (e:=156) dC) _ _ rF w3.heap.size rF (hO.out.ext onp_ext XE) rF L20.out (by have:=HSL.out;omega) (by have:=HSL.out;unfold maxLen;omega) (Nat.le_trans hsz5 (Below.size XE)) ?_
     intro v9 w9 o9 b9 g9 _
     have RO9:=qH ((hRt.out.ext XE).grow g9 neS)
     have DO9:=qH ((hC.out.ext XE).grow g9 neS)
     have XW:=qH (Below.trans hX.out (Below.trans (Below.mono XE hsz5) b9))
     have O9:Hid (OwnRow 6 OnP 104 w3.heap.size w9 v9 ol2):=(by rw [HST.out];exact o9)
     obtain ⟨a11,k11,he9,-,-⟩:=O9.out.rd.shape
     rw [HW2.out] at he9
     subst he9
     refine hK.out _ _ ⟨DO9.out.c7,(C1.out.ext (eT b13 XW.out)).c7,(CB0.out.ext (eT b03 XW.out)).c6⟩ (fun hHeld=>?_)
     clear hK K o9
     try simp only [jP,jJ]
     refine tkT 22 [23,24] hHeld ?_
     simp only [jP,jJ]
     refine tkT 23 [24] hHeld ?_
     simp only [jP,jJ]
     obtain ⟨_,_,_,_,_,_,_,m0,m1,m2,m3,m4,m5,m6,i0,i1,i2,i3,i4,i5,i6⟩:=RO9.out.c7
     refine wpAnyT_ready (rs:=[24]) kR (by simp) ?_
     refine AllReadyT.cut (o:=_) rfl (fun K hK=>?_)
     go_simp
     refine hK.out _ _ ?_
     clear hK K
     try simp only [jP,jJ]
     refine wpAny_done kR ?_ _
     refine NoPanic.normal ?_
     go_wp2_with fail
     go_roundw
     case rel=>exact ⟨i+1,a11,k11,by go_num,by omega,by have:=HB40.out;omega,putL_below HE.out [_] 2 XW.out,DO9.out.setAt RO9.out 2 dC _,RO9.out.setAt 2 _,by rw [HOE.out];exact O9.out.putT RO9.out dC 2 [_] (fun _ _ h=>OwnNPp.putT h RO9.out dC 2 [_])⟩
     simp [intOf]<;>omega
    rw [decide_eq_false hb]
    have HTE:Hid ((bx.take i).map oneND=(bx.take 40).map oneND):=by
     show _=_
     by_cases h40:i=40
     ·rw [h40]
     rw [List.take_of_length_le (show bx.length≤i by omega),List.take_of_length_le (show bx.length≤40 by omega)]
    rw [HTE.out] at hO
    have HNB:Hid (((bx.take 40).map oneND).length=i):=by rw [← HTE.out,List.length_map,List.length_take];show _=_;omega
    clear HTE
    obtain ⟨bl,hbl⟩:∃ bl,(bx.take 40).map oneND=bl:=⟨_,rfl⟩
    rw [hbl] at hO HNB hFin
    clear hbl hb u2
    go_wp2_with fail
    go_loopw [8] (fun t wr=>∃ (j:Nat) (aa:Option Addr) (ka:Nat),t=.int .i64 j∧j≤ats.length∧j≤210∧Hid (Ext w3 wr)∧Hid (Bx wr E [.int .i64 n'.1,.slice an n'.2.length cn,.slice ao i ko,.slice aa j ka,.int .i64 fk,.int .i64 fa,.slice x fn k])∧Hid (Rt wr E 7 33)∧Hid (OwnRow 6 OnP 104 w3.heap.size wr (.slice ao i ko) bl)∧Hid (OwnRow 5 OwnCa 109 w3.heap.size wr (.slice aa j ka) ((ats.take j).map cutB))) (fun t _=>210 - (intOf t).toNat)
    case atStart=>exact ⟨0,none,0,rfl,Nat.zero_le _,Nat.zero_le _,hX,hC,hRt,hO,by rw [List.take_zero];exact OwnRow.nil _ _ _⟩
    case round=>
     clear hX hC hRt hO hsz5 CP
     obtain ⟨j,aa,ka,rfl,hj,hj2,hX,hC,hRt,hO,hP⟩:=hrel
     obtain ⟨wo,hwo⟩:∃ w0:World,w0=wr:=⟨_,rfl⟩
     subst hwo
     have CP:=qH (C1.out.ext (eT b13 hX.out))
     obtain ⟨u0,u1,u2,u3,u4,u5,u6⟩:=CP.out.c7
     clear u0 u1 u2 u4 u5 u6
     go_upto_region 8 with (fail)
     go_cut [69] (fun s48 wx=>s48=.bool (decide (j < ats.length∧j < 210))∧wo=wx)
     case first=>
      by_cases hlt:j < ats.length
      ·have hd:=dT ((j:Int) < (ats.length:Int))
       by_cases h40:j < 210
       ·have hd4:=dT ((j:Int) < 210)
        go_wp2_with fail
        go_meet
        exact ⟨by simp [hlt,h40],rfl⟩
       have hd4:=dF ((j:Int) < 210)
       go_wp2_with fail
       go_meet
       exact ⟨by simp [h40],rfl⟩
      have hd:=dF ((j:Int) < (ats.length:Int))
      go_wp2_with fail
      go_meet
      exact ⟨by simp [hlt],rfl⟩
     case rest=>
      obtain ⟨rfl,rfl⟩:=hcut
      by_cases hb:j < ats.length∧j < 210
      ·rw [decide_eq_true hb]
       have HB40:Hid (j < 210):=hb.2
       have HJ1:IntKind.i64.wrap ((j:Int)+1)=((j+1:Nat):Int):=by rw [IntKind.wrap_i64];omega
       have HI2:(0:Int)≤(j:Int)∧(j:Int) < (ats.length:Int):=⟨by omega,by omega⟩
       have hx:=eT b03 hX.out
       obtain ⟨bA,oA,xa,xk,xy,xz,hae,hbo,hxk,hxm,HRT,HNC⟩:=HVA.out.nam j hb.1
       subst hae
       have HSN:=qH (cutb_snoc hb.1)
       have HCA:Hid (cutB (gt ats j)=((((gt ats j).1.1.take 12).map cutT,oneN (gt ats j).1.2),(gt ats j).2)):=rfl
       have CA:=qH (hbo.ext hx)
       have hbo0:=qH hbo
       have SZA:=qH (Bo.lt (hbo.ext hx))
       have SZP:=qH CP.out.lt
       have HON:Hid (∀ w',Ext wo w'→Calls Tryz.prog 26 #[.agg #[.bool (gt ats j).1.2.1,xy,xz]] w' (Gives w' fun v' w'=>OwnN 156 w' v' (oneN (gt ats j).1.2))):=fun w' xx=>one16_own (HNC.out.ext (eT hx xx))
       have HSL:Hid (((ats.take j).map cutB).length=j∧j≤210):=by rw [List.length_map,List.length_take];exact ⟨by omega,by omega⟩
       unfold maxLen at hxm
       clear hbo HNC
       rw [HCA.out] at HSN
       clear HCA
       generalize (gt ats j).1.2.1=sg at*
       generalize oneN (gt ats j).1.2=cN at*
       generalize (gt ats j).2=op at*
       generalize (gt ats j).1.1=lt at*
       go_upto_region 10 with (fail)
       clear u3
       go_cut [9] (fun s5 wx=>∃ (B:Nat) (a l c a' l' c':_),s5=.pointer (some ⟨B,0,none⟩)∧wo.heap.size≤B∧Ext wo wx∧Hid (Bx wx B [.slice none 0 0,.bool cN.1,.slice a l c,.slice a' l' c',.int .i64 op])∧Hid (Rt wx B 5 109)∧Hid (OwnN 156 wx (.agg #[.bool cN.1,.slice a l c,.slice a' l' c']) cN))
       case first=>
        as_aux_lemma=>
         obtain ⟨w1,hw1⟩:∃ w0:World,w0=wo:=⟨_,rfl⟩
         subst hw1
         refine wp_region_noPanic ?_
         refine wp_region_held_drew (S:=fun w'=>(w'.cell? ⟨w.heap.size,0,none⟩=some (.int .i64 nz)∧w'.cell? ⟨w.heap.size,1,none⟩=some (.slice a0 ln0 c0)∧w'.cell? ⟨w.heap.size,2,none⟩=some (.slice a bx.length c)∧w'.cell? ⟨w.heap.size,3,none⟩=some (.slice (some ⟨bA,oA,none⟩) ats.length c')∧w'.cell? ⟨w.heap.size,4,none⟩=some (.int .i64 fk)∧w'.cell? ⟨w.heap.size,5,none⟩=some (.int .i64 fa)∧w'.cell? ⟨w.heap.size,6,none⟩=some (.slice x fn k))∧(w'.cell? ⟨bA,oA+j*5,none⟩=some (.slice xa lt.length xk)∧w'.cell? ⟨bA,oA+j*5+1,none⟩=some (.bool sg)∧w'.cell? ⟨bA,oA+j*5+2,none⟩=some (xy)∧w'.cell? ⟨bA,oA+j*5+3,none⟩=some (xz)∧w'.cell? ⟨bA,oA+j*5+4,none⟩=some (.int .i64 op))) kR (⟨(CP.out.ext (drew_ext w1)).c7,(CA.out.ext (drew_ext w1)).c5⟩) (fun hHeld=>?_)
         refine tkH 0 hHeld ?_
         simp only [jP,jJ]
         refine tkH 3 hHeld ?_
         simp only [jP,jJ]
         refine tkH 7 hHeld ?_
         simp only [jP,jJ]
         refine tkH 10 hHeld ?_
         simp only [jP,jJ]
         refine tkH 1 hHeld ?_
         simp only [jP,jJ]
         refine tkH 8 hHeld ?_
         simp only [jP,jJ]
         refine tkH 2 hHeld ?_
         simp only [jP,jJ]
         refine tkH 9 hHeld ?_
         simp only [jP,jJ]
         refine tkH 4 hHeld ?_
         simp only [jP,jJ]
         refine tkH 11 hHeld ?_
         simp only [jP,jJ]
         refine tkH 5 hHeld ?_
         simp only [jP,jJ]
         refine tkH 12 hHeld ?_
         simp only [jP,jJ]
         refine tkH 6 hHeld ?_
         simp only [jP,jJ]
         refine tkH 13 hHeld ?_
         simp only [jP,jJ]
         refine tkH 14 hHeld ?_
         simp only [jP,jJ]
         refine anyH_cap fun O Q9 AA hO hQ hA=>?_
         obtain ⟨SS,hSS⟩:∃ SS:World→Prop,Hid (SS=fun w'=>(w'.cell? ⟨w.heap.size,0,none⟩=some (.int .i64 nz)∧w'.cell? ⟨w.heap.size,1,none⟩=some (.slice a0 ln0 c0)∧w'.cell? ⟨w.heap.size,2,none⟩=some (.slice a bx.length c)∧w'.cell? ⟨w.heap.size,3,none⟩=some (.slice (some ⟨bA,oA,none⟩) ats.length c')∧w'.cell? ⟨w.heap.size,4,none⟩=some (.int .i64 fk)∧w'.cell? ⟨w.heap.size,5,none⟩=some (.int .i64 fa)∧w'.cell? ⟨w.heap.size,6,none⟩=some (.slice x fn k))∧(w'.cell? ⟨bA,oA+j*5,none⟩=some (.slice xa lt.length xk)∧w'.cell? ⟨bA,oA+j*5+1,none⟩=some (.bool sg)∧w'.cell? ⟨bA,oA+j*5+2,none⟩=some (xy)∧w'.cell? ⟨bA,oA+j*5+3,none⟩=some (xz)∧w'.cell? ⟨bA,oA+j*5+4,none⟩=some (.int .i64 op))):=⟨_,rfl⟩
         have KP:Hid (∀ wv,Ext w1 wv→SS wv):=fun wv XE=>by rw [hSS.out];exact ⟨(CP.out.ext XE).c7,(CA.out.ext XE).c5⟩
         have L3_18:∀ (wv:World) (v15 v16 v17:Value) (B18:Nat),Hid (Ext w1 wv)→Hid (OwnN 156 wv v15 cN)→Hid (EvN cN wv v16)→Hid (AvN cN op wv v17)→Hid (Rt wv B18 5 109)→Hid (w1.heap.size≤B18)→wpAnyH Tryz.prog .any O Q9 SS 1 #[true,true,true,true,true,true,true,true,true,true,true,true,true,true,true,true,true,true,true,false] ((((AA.put (some 87) v15).put (some 88) v16).put (some 89) v17).put (some 9) (.pointer (some ⟨B18,0,none⟩))) wv:=by
          intro wv v15 v16 v17 B18 hX p15 p16 p17 r18 s18
          have hO1:=hO.out
          have hQ1:=hQ.out
          have hA1:=hA.out
          subst hO1
          subst hQ1
          subst hA1
          have XE:=hX.out
          have hHeld:=KP.out _ XE
          have hS1:=hSS.out
          subst hS1
          try simp only [jP,jJ]
          have k0_18:w.heap.size≠B18:=by have h1:=s18.out;have hz0:=SZP.out;have hz1:=SZA.out;omega
          have k1_18:bA≠B18:=by have h1:=s18.out;have hz0:=SZP.out;have hz1:=SZA.out;omega
          obtain ⟨_,_,_,_,_,i18_0,i18_1,i18_2,i18_3,i18_4,f18_0,f18_1,f18_2,f18_3,f18_4⟩:=r18.out.c5
          obtain ⟨g0,g1,g2,g3,g4,g5,rfl,OO⟩:=p17.out
          refine rdH 19 kR rfl (fun K hK=>?_)
          go_simp
          refine hK.out _ _ (⟨((CP.out.ext XE).putL k0_18 0 [_,_,_,_,_]).c7,((CA.out.ext XE).putL k1_18 0 [_,_,_,_,_]).c5⟩) (fun hHeld=>?_)
          clear hK K
          try simp only [jP,jJ]
          refine dnH kR ?_
          go_wp2_with fail
          go_meet
          obtain ⟨W,hW,hM1,hM2,hM3,hM4⟩:=meetN r18.out hX.out s18.out OO
          rw [← hW]
          exact ⟨B18,_,_,_,_,_,_,rfl,s18.out,hM1,hM2,hM3,hM4⟩
         have L2_18:∀ (wv:World) (v15 v16:Value) (B18:Nat),Hid (Ext w1 wv)→Hid (OwnN 156 wv v15 cN)→Hid (EvN cN wv v16)→Hid (Rt wv B18 5 109)→Hid (w1.heap.size≤B18)→wpAnyH Tryz.prog .any O Q9 SS 2 #[true,true,true,true,true,true,true,true,true,true,true,true,true,true,true,true,true,false,true,false] (((AA.put (some 87) v15).put (some 88) v16).put (some 9) (.pointer (some ⟨B18,0,none⟩))) wv:=by
          intro wv v15 v16 B18 hX p15 p16 r18 s18
          have hO1:=hO.out
          have hQ1:=hQ.out
          have hA1:=hA.out
          subst hO1
          subst hQ1
          subst hA1
          have XE:=hX.out
          have hHeld:=KP.out _ XE
          have hS1:=hSS.out
          subst hS1
          try simp only [jP,jJ]
          obtain ⟨f0,f1,rfl,OX⟩:=p16.out
          obtain ⟨g0,g1,g2,g3,g4,g5,he,-⟩:=OX.op
          obtain ⟨-,rfl,rfl⟩:=agg3_inj he
          refine tkH 17 hHeld ?_
          simp only [jP,jJ]
          exact wpAnyH_at (L3_18 wv _ _ _ B18 hX.out p15.out p16.out (⟨_,_,_,_,_,_,rfl,OX⟩) r18.out s18.out) kR kR kR
         have L3_:∀ (wv:World) (v15 v16 v17:Value),Hid (Ext w1 wv)→Hid (OwnN 156 wv v15 cN)→Hid (EvN cN wv v16)→Hid (AvN cN op wv v17)→wpAnyH Tryz.prog .any O Q9 SS 2 #[true,true,true,true,true,true,true,true,true,true,true,true,true,true,true,true,true,true,false,false] (((AA.put (some 87) v15).put (some 88) v16).put (some 89) v17) wv:=by
          intro wv v15 v16 v17 hX p15 p16 p17
          have hO1:=hO.out
          have hQ1:=hQ.out
          have hA1:=hA.out
          subst hO1
          subst hQ1
          subst hA1
          have XE:=hX.out
          try simp only [jP,jJ]
          refine rdH 18 kR rfl (fun K hK=>?_)
          go_simp
          refine hK.out _ _ (KP.out _ (eT XE (Ext.alloc _ _))) (fun _=>?_)
          clear hK K
          try simp only [jP,jJ]
          exact wpAnyH_at (L3_18 _ v15 v16 v17 wv.heap.size (eT XE (Ext.alloc wv (.cells [.slice none 0 0,.bool false,.slice none 0 0,.slice none 0 0,.int .i64 0].toArray 109))) (p15.out.ext (Ext.alloc wv (.cells [.slice none 0 0,.bool false,.slice none 0 0,.slice none 0 0,.int .i64 0].toArray 109))) (p16.out.ext (Ext.alloc wv (.cells [.slice none 0 0,.bool false,.slice none 0 0,.slice none 0 0,.int .i64 0].toArray 109))) (p17.out.ext (Ext.alloc wv (.cells [.slice none 0 0,.bool false,.slice none 0 0,.slice none 0 0,.int .i64 0].toArray 109))) (Rt.new wv [.slice none 0 0,.bool false,.slice none 0 0,.slice none 0 0,.int .i64 0] 109) (Below.size XE)) kR kR kR
         have L1_18:∀ (wv:World) (v15:Value) (B18:Nat),Hid (Ext w1 wv)→Hid (OwnN 156 wv v15 cN)→Hid (Rt wv B18 5 109)→Hid (w1.heap.size≤B18)→wpAnyH Tryz.prog .any O Q9 SS 3 #[true,true,true,true,true,true,true,true,true,true,true,true,true,true,true,true,false,false,true,false] ((AA.put (some 87) v15).put (some 9) (.pointer (some ⟨B18,0,none⟩))) wv:=by
          intro wv v15 B18 hX p15 r18 s18
          have hO1:=hO.out
          have hQ1:=hQ.out
          have hA1:=hA.out
          subst hO1
          subst hQ1
          subst hA1
          have XE:=hX.out
          have hHeld:=KP.out _ XE
          have hS1:=hSS.out
          subst hS1
          try simp only [jP,jJ]
          obtain ⟨f0,f1,f2,f3,f4,f5,rfl,OX⟩:=p15.out.op
          refine tkH 16 hHeld ?_
          simp only [jP,jJ]
          exact wpAnyH_at (L2_18 wv _ _ B18 hX.out p15.out (⟨_,_,rfl,p15.out⟩) r18.out s18.out) kR kR kR
         have L2_:∀ (wv:World) (v15 v16:Value),Hid (Ext w1 wv)→Hid (OwnN 156 wv v15 cN)→Hid (EvN cN wv v16)→wpAnyH Tryz.prog .any O Q9 SS 3 #[true,true,true,true,true,true,true,true,true,true,true,true,true,true,true,true,true,false,false,false] ((AA.put (some 87) v15).put (some 88) v16) wv:=by
          intro wv v15 v16 hX p15 p16
          have hO1:=hO.out
          have hQ1:=hQ.out
          have hA1:=hA.out
          subst hO1
          subst hQ1
          subst hA1
          have XE:=hX.out
          have hHeld:=KP.out _ XE
          have hS1:=hSS.out
          subst hS1
          try simp only [jP,jJ]
          obtain ⟨f0,f1,rfl,OX⟩:=p16.out
          obtain ⟨g0,g1,g2,g3,g4,g5,he,-⟩:=OX.op
          obtain ⟨-,rfl,rfl⟩:=agg3_inj he
          refine tkH 17 hHeld ?_
          simp only [jP,jJ]
          exact wpAnyH_at (L3_ wv _ _ _ hX.out p15.out p16.out (⟨_,_,_,_,_,_,rfl,OX⟩)) kR kR kR
         have L0_18:∀ (wv:World) (B18:Nat),Hid (Ext w1 wv)→Hid (Rt wv B18 5 109)→Hid (w1.heap.size≤B18)→wpAnyH Tryz.prog .any O Q9 SS 4 #[true,true,true,true,true,true,true,true,true,true,true,true,true,true,true,false,false,false,true,false] (AA.put (some 9) (.pointer (some ⟨B18,0,none⟩))) wv:=by
          intro wv B18 hX r18 s18
          have hO1:=hO.out
          have hQ1:=hQ.out
          have hA1:=hA.out
          subst hO1
          subst hQ1
          subst hA1
          have XE:=hX.out
          try simp only [jP,jJ]
          refine rdH 15 kR rfl (fun K hK=>?_)
          go_simp
          go_at_call 26
          refine (HON.out _ XE).mono ?_
          rintro e wn ⟨vn,rfl,bn,on⟩
          go_wp2_with fail
          refine hK.out _ _ (KP.out _ (eT XE bn)) (fun _=>?_)
          clear hK K
          try simp only [jP,jJ]
          exact wpAnyH_at (L1_18 wn vn B18 (eT XE bn) (on) (r18.out.ext bn) s18) kR kR kR
         have L1_:∀ (wv:World) (v15:Value),Hid (Ext w1 wv)→Hid (OwnN 156 wv v15 cN)→wpAnyH Tryz.prog .any O Q9 SS 4 #[true,true,true,true,true,true,true,true,true,true,true,true,true,true,true,true,false,false,false,false] (AA.put (some 87) v15) wv:=by
          intro wv v15 hX p15
          have hO1:=hO.out
          have hQ1:=hQ.out
          have hA1:=hA.out
          subst hO1
          subst hQ1
          subst hA1
          have XE:=hX.out
          have hHeld:=KP.out _ XE
          have hS1:=hSS.out
          subst hS1
          try simp only [jP,jJ]
          obtain ⟨f0,f1,f2,f3,f4,f5,rfl,OX⟩:=p15.out.op
          refine tkH 16 hHeld ?_
          simp only [jP,jJ]
          exact wpAnyH_at (L2_ wv _ _ hX.out p15.out (⟨_,_,rfl,p15.out⟩)) kR kR kR
         have L0_:∀ (wv:World),Hid (Ext w1 wv)→wpAnyH Tryz.prog .any O Q9 SS 5 #[true,true,true,true,true,true,true,true,true,true,true,true,true,true,true,false,false,false,false,false] AA wv:=by
          intro wv hX
          have hO1:=hO.out
          have hQ1:=hQ.out
          have hA1:=hA.out
          subst hO1
          subst hQ1
          subst hA1
          have XE:=hX.out
          try simp only [jP,jJ]
          refine wpAnyH_ready (rs:=[15,18]) kR (by simp) ?_
          refine AllReadyH.cons (o:=_) rfl (fun K hK=>?_) (AllReadyH.cons (o:=_) rfl (fun K hK=>?_) AllReadyH.nil)
          ·skip
           go_simp
           go_at_call 26
           refine (HON.out _ XE).mono ?_
           rintro e wn ⟨vn,rfl,bn,on⟩
           go_wp2_with fail
           refine hK.out _ _ (KP.out _ (eT XE bn)) (fun _=>?_)
           clear hK K
           try simp only [jP,jJ]
           exact wpAnyH_at (L1_ wn vn (eT XE bn) (on)) kR kR kR
          skip
          go_simp
          refine hK.out _ _ (KP.out _ (eT XE (Ext.alloc _ _))) (fun _=>?_)
          clear hK K
          try simp only [jP,jJ]
          exact wpAnyH_at (L0_18 _ wv.heap.size (eT XE (Ext.alloc wv (.cells [.slice none 0 0,.bool false,.slice none 0 0,.slice none 0 0,.int .i64 0].toArray 109))) (Rt.new wv [.slice none 0 0,.bool false,.slice none 0 0,.slice none 0 0,.int .i64 0] 109) (Below.size XE)) kR kR kR
         have hO1:=hO.out
         have hQ1:=hQ.out
         have hA1:=hA.out
         subst hO1
         subst hQ1
         subst hA1
         have hS1:=hSS.out
         subst hS1
         exact wpAnyH_at (L0_ w1.drew (drew_ext w1)) kR kR kR
       case rest=>
        as_aux_lemma=>
         obtain ⟨B,a1,l1,c1,a2,l2,c2,rfl,hBo,hXa,hCa,hR5,hNn⟩:=hcut
         obtain ⟨wp,hwp⟩:∃ w0:World,w0=wc:=⟨_,rfl⟩
         subst hwp
         have HBW:Hid (wo.heap.size≤B):=hBo
         clear HON CA SZA SZP hBo CP
         go_wp2_with fail
         go_loopw [10] (fun t wr=>∃ (jj:Nat) (at':Option Addr) (kt:Nat),t=.int .i64 jj∧jj≤lt.length∧jj≤12∧Hid (Ext wo wr)∧Hid (Bx wr B [.slice at' jj kt,.bool cN.1,.slice a1 l1 c1,.slice a2 l2 c2,.int .i64 op])∧Hid (Rt wr B 5 109)∧Hid (OwnN 156 wr (.agg #[.bool cN.1,.slice a1 l1 c1,.slice a2 l2 c2]) cN)∧Hid (OwnRow 4 OwnCt 111 wo.heap.size wr (.slice at' jj kt) ((lt.take jj).map cutT))) (fun t _=>12 - (intOf t).toNat)
         case atStart=>exact ⟨0,none,0,rfl,Nat.zero_le _,Nat.zero_le _,hXa,hCa,hR5,hNn,by rw [List.take_zero];exact OwnRow.nil _ _ _⟩
         case round=>
          clear hXa hCa hR5 hNn
          obtain ⟨jj,at',kt,rfl,hjj,hj12,hXr,hCb,hRb,hQ,hOr⟩:=hrel
          obtain ⟨ws,hws⟩:∃ w0:World,w0=wr:=⟨_,rfl⟩
          subst hws
          have hxr:=eT hx hXr.out
          have hx3:=eT hX.out hXr.out
          obtain ⟨t0,t1,t2,t3,t4⟩:=(hbo0.out.ext hxr).c5
          obtain ⟨u0,u1,u2,u3,u4,u5,u6⟩:=(C1.out.ext (eT b13 hx3)).c7
          clear t1 t2 t3 t4 u0 u1 u2 u4 u5 u6
          go_upto_region 12 with (fail)
          go_cut [104] (fun s48 wx=>s48=.bool (decide (jj < lt.length∧jj < 12))∧ws=wx)
          case first=>
           by_cases hlt:jj < lt.length
           ·have hd:=dT ((jj:Int) < (lt.length:Int))
            by_cases h40:jj < 12
            ·have hd4:=dT ((jj:Int) < 12)
             go_wp2_with fail
             go_meet
             exact ⟨by simp [hlt,h40],rfl⟩
            have hd4:=dF ((jj:Int) < 12)
            go_wp2_with fail
            go_meet
            exact ⟨by simp [h40],rfl⟩
           have hd:=dF ((jj:Int) < (lt.length:Int))
           go_wp2_with fail
           go_meet
           exact ⟨by simp [hlt],rfl⟩
          case rest=>
           obtain ⟨rfl,rfl⟩:=hcut
           by_cases hb2:jj < lt.length∧jj < 12
           ·rw [decide_eq_true hb2]
            have hjl:=hb2.1
            have HB12:Hid (jj < 12):=hb2.2
            have HK1:IntKind.i64.wrap ((jj:Int)+1)=((jj+1:Nat):Int):=by rw [IntKind.wrap_i64];omega
            have HK2:(0:Int)≤(jj:Int)∧(jj:Int) < (lt.length:Int):=⟨by omega,by omega⟩
            have hRR:=HRT.out.ext RdNT.ext hxr
            obtain ⟨bT,oT,rfl⟩:=hRR.some_atN hjl
            obtain ⟨yy,zz,hbx,hnt⟩:=hRR.nt jj hjl
            rw [← gt_lt hjl] at hbx hnt
            have HSTt:=qH (cutt_snoc hjl)
            have HOL:Hid (((lt.take jj).map cutT).length=jj):=by show _=_;rw [List.length_map,List.length_take];omega
            have HO1:Hid (((lt.take (jj+1)).map cutT).length=jj+1):=by show _=_;rw [List.length_map,List.length_take];omega
            have HNT:=qH hnt
            obtain ⟨ya,yl,yc,za,zl,zc,rfl,rfl⟩:=hnt.sl
            obtain ⟨v0,v1,v2,v3⟩:=hbx
            have HN4:Hid (∀ w',Ext ws w'→Calls Tryz.prog 26 #[.agg #[.bool (gt lt jj).2.1,.slice ya yl yc,.slice za zl zc]] w' (Gives w' fun v' w'=>OwnN 156 w' v' (oneN (gt lt jj).2))):=fun w' xx=>one16_own (HNT.out.ext xx)
            clear hRR hnt HNT
            obtain ⟨n4,hn4⟩:∃ n4,oneN (gt lt jj).2=n4:=⟨_,rfl⟩
            rw [hn4] at HN4 HSTt
            have HNS:Hid (n4.1=(gt lt jj).2.1):=by rw [← hn4];exact rfl
            clear hn4
            generalize (gt lt jj).1=u at*
            generalize (gt lt jj).2.1=sb at*
            generalize (lt.take jj).map cutT=ol at*
            obtain ⟨ol2,hol2⟩:∃ ol2,(lt.take (jj+1)).map cutT=ol2:=⟨_,rfl⟩
            have HOE:=qH hol2
            rw [hol2] at HSTt HO1
            clear hol2
            obtain ⟨w14,hw14,b14,c14,-,-⟩:=bx1 ws [.int .i64 u,.bool sb,.slice ya yl yc,.slice za zl zc] 111
            have HW:=qH hw14
            have DT:=qH c14
            clear hw14 c14
            go_upto_region 15 with (fail)
            rw [← HW.out]
            clear HW t0 u3 v0 v1 v2 v3
            have DO:=qH (hCb.out.ext b14)
            have hRt4:=qH (hRb.out.ext b14)
            have hO4:=qH (hOr.out.ext OwnNT.ext b14)
            have hQ4:=qH (hQ.out.ext b14)
            have neO:=hOr.out.ne_rt hRb.out dC
            have neT:=hOr.out.ne_new
            have hb4:=eT hXr.out b14
            have hsz4:wo.heap.size≤w14.heap.size:=Below.size hb4
            have b15:=drew_ext w14
            have XE:=b15
            refine wp_region_noPanic ?_
            refine wp_region_cut_drew (st:=13) (S:=fun w'=>(w'.cell? ⟨B,0,none⟩=some (.slice at' jj kt))∧(w'.cell? ⟨ws.heap.size,0,none⟩=some (.int .i64 u)∧w'.cell? ⟨ws.heap.size,1,none⟩=some (.bool sb)∧w'.cell? ⟨ws.heap.size,2,none⟩=some (.slice ya yl yc)∧w'.cell? ⟨ws.heap.size,3,none⟩=some (.slice za zl zc))) kR (⟨(DO.out.ext XE).c1,(DT.out.ext XE).c4⟩) (fun hHeld=>?_)
            refine tkT 0 [13] hHeld ?_
            simp only [jP,jJ]
            refine tkT 1 [13] hHeld ?_
            simp only [jP,jJ]
            refine tkT 2 [13] hHeld ?_
            simp only [jP,jJ]
            refine tkT 3 [13] hHeld ?_
            simp only [jP,jJ]
            refine tkT 4 [13] hHeld ?_
            simp only [jP,jJ]
            refine tkT 5 [13] hHeld ?_
            simp only [jP,jJ]
            refine tkT 6 [13] hHeld ?_
            simp only [jP,jJ]
            refine rdT 7 kR rfl rF (fun K hK=>?_)
            go_simp
            go_at_call 26;refine (HN4.out _ (eT b14 XE)).mono ?_;rintro e w16 ⟨v16,rfl,b16,o16⟩;have O16:=qH o16;clear o16;(first | have XE:=eT XE b16 | have XE:=eT (eT XE (Ext.alloc _ _)) b16);obtain ⟨e6,n6,g6,f6,m6,h6,rfl,P6⟩:=O16.out.op;rw [HNS.out]
            go_wp2_with fail
            refine hK.out _ _ (⟨(DO.out.ext XE).c1,(DT.out.ext XE).c4⟩) (fun hHeld=>?_)
            clear hK K
            try simp only [jP,jJ]
            refine tkT 8 [13] hHeld ?_
            simp only [jP,jJ]
            refine rdT 9 kR rfl rF (fun K hK=>?_)
            go_simp
            refine hK.out _ _ (⟨(DO.out.ext (eT XE (Ext.alloc _ _))).c1,(DT.out.ext (eT XE (Ext.alloc _ _))).c4⟩) (fun hHeld=>?_)
            clear hK K
            try simp only [jP,jJ]
            refine rdT 10 kR rfl rF (fun K hK=>?_)
            refine if_wantedL rfl ?_
            refine append_row (y:=(u,n4)) etCt (kdNT (e:=156) dC) _ _ rF wo.heap.size rF _ rF (hO4.out.ext OwnNT.ext XE) rfl ⟨_,_,by rw [← HNS.out],P6.out⟩ (Nat.le_trans hsz4 (Below.size XE)) (by have:=HOL.out;have:=HB12.out;omega) (by have:=HOL.out;have:=HB12.out;unfold maxLen;omega) ?_
            intro v9 w9 o9 b9 g9
            have xA:=eT XE (Ext.alloc w16 (.cells #[.int .i64 u,.bool sb,.slice e6 n6 g6,.slice f6 m6 h6] 111))
            have RO9:=qH ((hRt4.out.ext xA).grow g9 neO)
            have DO9:=qH ((DO.out.ext xA).grow g9 neO)
            obtain ⟨nn,xs,hown⟩:=((hO4.out.ext OwnNT.ext xA)).own
            have HQ9:=qH (OwnN.grown (hQ4.out.ext xA) hown dC g9)
            have XW:=qH (Below.trans hb4 (Below.trans (Below.mono XE hsz4) b9))
            have O9:Hid (OwnRow 4 OwnCt 111 wo.heap.size w9 v9 ol2):=(by rw [HSTt.out];exact o9)
            obtain ⟨a11,k11,he9,-,-⟩:=O9.out.rd.shape
            rw [HO1.out] at he9
            subst he9
            refine hK.out _ _ ⟨DO9.out.c1,((DT.out.ext xA).grow g9 neT).c4⟩ (fun hHeld=>?_)
            clear hK K o9 hown
            try simp only [jP,jJ]
            refine tkT 11 [12,13] hHeld ?_
            simp only [jP,jJ]
            refine tkT 12 [13] hHeld ?_
            simp only [jP,jJ]
            obtain ⟨_,_,_,_,_,n0,n1,n2,n3,n5,i0,i1,i2,i3,i5⟩:=RO9.out.c5
            refine wpAnyT_ready (rs:=[13]) kR (by simp) ?_
            refine AllReadyT.cut (o:=_) rfl (fun K hK=>?_)
            go_simp
            refine hK.out _ _ ?_
            clear hK K
            try simp only [jP,jJ]
            refine wpAny_done kR ?_ _
            refine NoPanic.normal ?_
            go_wp2_with fail
            go_roundw
            case rel=>exact ⟨jj+1,a11,k11,by go_num,by omega,by have:=HB12.out;omega,putL_below HBW.out [_] 0 XW.out,DO9.out.set0 RO9.out dC _,RO9.out.set0 _,HQ9.out.putT RO9.out dC 0 [_],by rw [HOE.out];exact O9.out.putT RO9.out dC 0 [_] (fun v a h=>h.putT RO9.out dC 0 [_])⟩
            simp [intOf]<;>omega
           rw [decide_eq_false hb2]
           have HTE:Hid ((lt.take jj).map cutT=(lt.take 12).map cutT):=by
            show _=_
            by_cases h40:jj=12
            ·rw [h40]
            rw [List.take_of_length_le (show lt.length≤jj by omega),List.take_of_length_le (show lt.length≤12 by omega)]
           have HNT:Hid (((lt.take 12).map cutT).length=jj):=by rw [← HTE.out,List.length_map,List.length_take];show _=_;omega
           rw [HTE.out] at hOr
           have HQN:Hid (OwnCa ws (.agg #[.slice at' jj kt,.bool cN.1,.slice a1 l1 c1,.slice a2 l2 c2,.int .i64 op]) (((lt.take 12).map cutT,cN),op)):=⟨_,_,_,rfl,hOr.out.mono (Nat.zero_le _),hQ.out⟩
           clear HTE hOr hQ hRb HRT HNT hb2 t0 u3
           obtain ⟨pq,hpq⟩:∃ pq:NAT,(((lt.take 12).map cutT,cN),op)=pq:=⟨_,rfl⟩
           rw [hpq] at HQN HSN
           clear hpq
           obtain ⟨ol,hol⟩:∃ ol,(ats.take j).map cutB=ol:=⟨_,rfl⟩
           rw [hol] at HSL HSN hP
           clear hol
           obtain ⟨ol2,hol2⟩:∃ ol2,(ats.take (j+1)).map cutB=ol2:=⟨_,rfl⟩
           have HOE:=qH hol2
           rw [hol2] at HSN
           have HW2:Hid (ol2.length=j+1):=by have:=HSL.out.1;show _=_;rw [HSN.out,List.length_append,List.length_singleton];omega
           clear hol2
           obtain ⟨s0,s1,s2,s3,s4⟩:=hCb.out.c5
           obtain ⟨q0,q1,q2,q3,q4,q5,q6⟩:=(hC.out.ext hXr.out).c7
           have neE:=hP.out.ne_rt hRt.out dC
           go_upto_region 16 with (fail)
           clear q0 q1 q2 q4 q5 q6
           go_wp2_with (refine build1W etCa rF rF (T:=OwnCa) OwnNA.ext rF [.slice at' jj kt,.bool cN.1,.slice a1 l1 c1,.slice a2 l2 c2,.int .i64 op] (fill_a1 ..) rfl dC HQN.out ?_;intro g8 w8 x8 _ l8;refine append_rowGL etCa (kdNA dC dC) rF _ _ rF w3.heap.size rF (hP.out.ext OwnNA.ext (eT hXr.out x8)) rF l8.rd (by have:=HSL.out;omega) (by unfold maxLen;have:=HSL.out;omega) (Below.size (eT hx3 x8)) ?_;intro v9 w9 o9 b9 g9 _;have RE9:=qH ((hRt.out.ext (eT hXr.out x8)).grow g9 neE);have CE9:=qH ((hC.out.ext (eT hXr.out x8)).grow g9 neE);obtain ⟨nn,xs,hown⟩:=(hP.out.ext OwnNA.ext (eT hXr.out x8)).own;have HB9:=qH (OwnRow.grown (hO.out.ext onp_ext (eT hXr.out x8)) (fun _ _ h=>(kdNP (e:=156) dC).grown h hown g9) hown dC g9);have O9:Hid (OwnRow 5 OwnCa 109 w3.heap.size w9 v9 ol2):=(by rw [HSN.out];exact o9);have XW:=qH (Below.trans (eT hx3 x8) b9);obtain ⟨a11,k11,he9,-,-⟩:=O9.out.rd.shape;rw [HW2.out] at he9;subst he9;clear o9 hown;obtain ⟨_,_,_,_,_,_,_,e0,e1,e2,e3,e4,e5,e6,f0,f1,f2,f3,f4,f5,f6⟩:=RE9.out.c7)
           go_roundw
           case rel=>exact ⟨j+1,a11,k11,by go_num,by have:=hb.1;omega,by have:=HB40.out;omega,putL_below HE.out [_] 3 XW.out,CE9.out.setAt RE9.out 3 dC _,RE9.out.setAt 3 _,HB9.out.putT RE9.out dC 3 [_] (fun _ _ h=>OwnNPp.putT h RE9.out dC 3 [_]),by rw [HOE.out];exact O9.out.putT RE9.out dC 3 [_] (fun _ _ h=>OwnNA.putT h RE9.out dC dC 3 [_])⟩
           simp [intOf]<;>omega
      rw [decide_eq_false hb]
      have HTE:Hid ((ats.take j).map cutB=(ats.take 210).map cutB):=by
       show _=_
       by_cases h40:j=210
       ·rw [h40]
       rw [List.take_of_length_le (show ats.length≤j by omega),List.take_of_length_le (show ats.length≤210 by omega)]
      rw [HTE.out] at hP
      have HNA:Hid (((ats.take 210).map cutB).length=j):=by rw [← HTE.out,List.length_map,List.length_take];show _=_;omega
      clear HTE
      obtain ⟨al,hal⟩:∃ al,(ats.take 210).map cutB=al:=⟨_,rfl⟩
      rw [hal] at hP HNA hFin
      clear hal hb u3
      obtain ⟨q0,q1,q2,q3,q4,q5,q6⟩:=hC.out.c7
      obtain ⟨_,_,_,_,_,_,_,m0,m1,m2,m3,m4,m5,m6,i0,i1,i2,i3,i4,i5,i6⟩:=(R1.out.ext (eT b13 hX.out)).c7
      go_wp2_with fail
      refine bodyPost_ret (v:=.tuple #[.agg #[.int .i64 n'.1,.slice an n'.2.length cn,.slice ao i ko,.slice aa j ka,.int .i64 fk,.int .i64 fa,.slice x fn k],.bool b]) (by simp [results,Tryz.results6,go_sem,m0,m1,m2,m3,m4,m5,m6]) rfl ?_
      refine hFin.out _ _ ?_ (putL_below oM [_,_,_,_,_,_,_] 0 (eT b03 hX.out))
      have hR3:=R1.out.ext (eT b13 hX.out)
      have h3:=OwnNet.putT (OwnNet.ext HNW.out onn_ext (eT b3 hX.out)) hR3 dC dC dC dC dC 0 [.int .i64 n'.1,.slice an n'.2.length cn,.slice ao i ko,.slice aa j ka,.int .i64 fk,.int .i64 fa,.slice x fn k] fun _ _ h=>OwnN.putT h hR3 dC 0 _
      have hB2:=(hO.out.mono (Nat.zero_le _)).putT hR3 dC 0 [.int .i64 n'.1,.slice an n'.2.length cn,.slice ao i ko,.slice aa j ka,.int .i64 fk,.int .i64 fa,.slice x fn k] (fun _ _ h=>OwnNPp.putT h hR3 dC 0 _)
      have hA2:=(hP.out.mono (Nat.zero_le _)).putT hR3 dC 0 [.int .i64 n'.1,.slice an n'.2.length cn,.slice ao i ko,.slice aa j ka,.int .i64 fk,.int .i64 fa,.slice x fn k] (fun _ _ h=>OwnNA.putT h hR3 dC dC 0 _)
      obtain rfl:=HNB.out
      obtain rfl:=HNA.out
      obtain ⟨h1,h2,h4⟩:=HFK.out
      have h5:=HVF.out
      subst h1 h2 h4
      exact ⟨an,cn,ao,ko,aa,ka,x,k,rfl,h3,ao,ko,aa,ka,x,k,rfl,hB2,hA2,h5⟩
end Go.Proofs.YtmlhccajicmpfaaGreat

namespace Go.Att
open Go.RowKit

theorem OwnEy.grown {e t e':TypeId} {B':Nat} {w w':World} {v v':Value} {l:TL} {c:Rat} {B n size:Nat} {xs:List Value} (h:OwnEy e t B w v l c) (hr:w.ownsRow B' e' size v' n xs) (h1:e≠e') (h2:t≠e') (hg:w.grownBy w' v'.ownBlock):OwnEy e t B w' v l c:=by
 obtain ⟨s,x,y,z,rfl,h3,h4⟩:=h
 refine ⟨s,x,y,z,rfl,h3.grown (fun u a h=>h.grown hr h1 hg) hr h2 hg,?_⟩
 obtain ⟨n',d',he,g1,g2⟩:=h4
 exact ⟨n',d',he,owns_grown g1 hr h1 hg,owns_grown g2 hr h1 hg⟩
def OwnBt (e t:TypeId) (w:World) (v:Value) (p:AT):Prop:=∃ s x y z,v=.agg #[s,x,y,z,.int .i64 p.2]∧OwnEy e t 0 w (.agg #[s,x,y,z]) p.1.1 p.1.2
theorem OwnBt.ext {e t:TypeId} {w w':World} {v:Value} {p:AT} (h:OwnBt e t w v p) (x:Ext w w'):OwnBt e t w' v p:=by
 obtain ⟨a,b,c,d,rfl,h⟩:=h
 exact ⟨a,b,c,d,rfl,h.ext x⟩
theorem OwnBt.op {e t:TypeId} {w:World} {v:Value} {p:AT} (h:OwnBt e t w v p):∃ a k s b m d b' m' d',v=.agg #[.slice a p.1.1.length k,.bool s,.slice b m d,.slice b' m' d',.int .i64 p.2]∧Hid (OwnEy e t 0 w (.agg #[.slice a p.1.1.length k,.bool s,.slice b m d,.slice b' m' d']) p.1.1 p.1.2):=by
 obtain ⟨s,x,y,z,rfl,h⟩:=h
 obtain ⟨a,k,s,b,m,d,b',m',d',he,-,-,h1⟩:=h.op
 simp only [Value.agg.injEq,Array.mk.injEq,List.cons.injEq,and_true] at he
 obtain ⟨rfl,rfl,rfl,rfl⟩:=he
 exact ⟨a,k,s,b,m,d,b',m',d',rfl,h1⟩
theorem cells_Bt {e t:TypeId} {w:World} {cs:List Value} {p:AT} (h:OwnBt e t w (.agg cs.toArray) p):∃ a k s b m d b' m' d',cs=[.slice a p.1.1.length k,.bool s,.slice b m d,.slice b' m' d',.int .i64 p.2]∧OwnEy e t 0 w (.agg #[.slice a p.1.1.length k,.bool s,.slice b m d,.slice b' m' d']) p.1.1 p.1.2:=by
 obtain ⟨a,k,s,b,m,d,b',m',d',he,h1⟩:=h.op
 have:cs.toArray=#[.slice a p.1.1.length k,.bool s,.slice b m d,.slice b' m' d',.int .i64 p.2]:=by simpa using he
 exact ⟨a,k,s,b,m,d,b',m',d',by simpa using congrArg Array.toList this,h1.out⟩
theorem kdBt {e t e':TypeId} (h1:e≠e') (h2:t≠e'):Kd e' (OwnBt e t):=⟨fun h X=>h.ext X,fun h hr hg=>by
 obtain ⟨a,b,c,d,rfl,h⟩:=h
 exact ⟨a,b,c,d,rfl,h.grown hr h1 h2 hg⟩,fun h u hu=>by
 obtain ⟨a,k,s,b,m,d,b',m',d',rfl,-⟩:=cells_Bt h
 simp at hu
 rcases hu with rfl | rfl | rfl | rfl | rfl <;> rfl⟩
theorem RdRow.btm {e t:TypeId} {w:World} {a:Option Addr} {n c:Nat} {l:List AT} (h:RdRow 5 (OwnBt e t) w (.slice a n c) l) (i:Nat) (hi:i < l.length):
  ∃ b off x k s y m d y' m' d',a=some ⟨b,off,none⟩∧Bo w b (off+i*5) [.slice x l[i].1.1.length k,.bool s,.slice y m d,.slice y' m' d',.int .i64 l[i].2]∧OwnEy e t 0 w (.agg #[.slice x l[i].1.1.length k,.bool s,.slice y m d,.slice y' m' d']) l[i].1.1 l[i].1.2:=by
 obtain ⟨b1,o1,cs,he,hl,hT,hc⟩:=h.at dC i hi
 obtain ⟨x,k,s,y,m,d,y',m',d',rfl,h2⟩:=cells_Bt hT
 exact ⟨b1,o1,x,k,s,y,m,d,y',m',d',he,Bo.of hc,h2⟩
end Go.Att
