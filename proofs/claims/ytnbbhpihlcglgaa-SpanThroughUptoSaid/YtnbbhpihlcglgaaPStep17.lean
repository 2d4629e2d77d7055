/- attestref17.Step: the ranges behind a layer -/
import Derived.Test.YtnbbhpihlcglgaaSq
import Derived.Test.YtnbbhpihlcglgaaPTold15
import Derived.Test.YtnbbhpihlcglgaaOwnAll
import Derived.Test.YtnbbhpihlcglgaaNetPlain
import Derived.Test.YtnbbhpihlcglgaaPTold17
import Derived.Test.YtnbbhpihlcglgaaBuildS
namespace Go.Proofs.Ytnbbhpihlcglgaa
open Go.RowKit Go.Att

abbrev TnE (w:World) (v:Value) (p:Rat × Rat):Prop:=OwnEp 4 w v p
theorem tne_ext {w w':World} {v:Value} {a:Rat × Rat} (h:TnE w v a) (x:Ext w w'):TnE w' v a:=OwnE.ext h x
theorem kdTe {e':TypeId} (h:4≠e'):Kd e' TnE:=kdE h
set_option maxRecDepth 100000 in
set_option maxHeartbeats 40000000 in
set_option linter.unusedSimpArgs false in
theorem step17_any {w:World} {v0 v1:Value} {l:Lay Rat} {g:List (Rat × Rat)} {wn:Int} (hv:RdLay (OwnPp 4) w v0 l) (hx:RdRow 6 TnE w v1 g) (hw:0 < wdt l wn) (hgn:(g.length:Int)=wn) (h4:wn≤4) (hl:litL l) (hs:SzL l) (hc:SzR 348 g):
  Calls Try.prog 76 #[v0,v1] w (Gives w fun v' w'=>OwnRow 6 TnE 48 0 w' v' (stepS l g)):=by
 refine via fun R hR=>?_
 obtain ⟨aw,mw,ab,mb,ag,mg,rfl,hRW,hRB,hRG⟩:=hv.op
 obtain ⟨ax2,cx2,rfl,-,-⟩:=hx.shape
 have HRW:=Lib.hid hRW
 have HRB:=Lib.hid hRB
 have HRG:=Lib.hid hRG
 have HLL:Hid (litL l):=hl
 have HSS:Hid (SzL l):=hs
 have HXC:Hid (SzR 348 g):=hc
 have HXI:Hid ((g.length:Int)=wn):=hgn
 have HW4:Hid (wn≤4):=h4
 have HXN:Hid (g.length≤4):=by show _≤_;omega
 have HCS:Hid _:=wdt_cases hw
 obtain ⟨w1,hw1,b1,c1,-,-⟩:=bx1 w [.int .i64 l.K,.slice aw l.W.length mw,.slice ab l.B.length mb,.slice ag l.G.length mg] 142
 have HW:=Lib.hid hw1
 have C1:=Lib.hid c1
 have HX1:=Lib.hid (hx.ext OwnE.ext b1)
 clear hv hx hRW hRB hRG hw1 c1 hw hgn h4 hl hs hc
 go_enter Try.func76,Try.ntmps76
 go_upto_region 1 with (fail)
 rw [← HW.out]
 clear HW
 go_cut [5] (fun s5 wx=>Ext w1 wx∧Hid (OwnRow 6 TnE 48 w1.heap.size wx s5 []))
 case first=>
  go_wp2_with fail
  go_meet
  exact ⟨Ext.alloc _ _,OwnRow.nilLit _ (Nat.le_refl _)⟩
 obtain ⟨hX2,hO2⟩:=hcut
 obtain ⟨w2,hw2⟩:∃ w0:World,w0=wc:=⟨_,rfl⟩
 subst hw2
 obtain ⟨u0,u1,u2,u3⟩:=(C1.out.ext hX2).c4
 rcases HCS.out with ⟨h1,hBW,hrw,-,-⟩ | ⟨h1,-⟩ | ⟨h1,hgi,-,-⟩
 ·have he1:(l.K == 1)=true:=by rw [h1];rfl
  obtain ⟨hyl,hyt⟩:=stepS_one (x:=g) h1 hBW
  have HYL:=Lib.hid hyl
  have HYT:=Lib.hid hyt
  have HBW:=Lib.hid hBW
  have HRL:=Lib.hid hrw
  obtain ⟨ys,hys⟩:∃ ys,stepS l g=ys:=⟨_,rfl⟩
  rw [hys] at HYL HYT
  have HYS:=Lib.hid hys
  clear hyl hyt hBW hrw hys h1
  generalize l.K=kq at*
  go_wp2_with fail
  clear u0 u1 u2 u3 he1
  go_loopw [5,22] (fun vy t wr=>∃ j:Nat,t=.int .i64 j∧j≤l.W.length∧Hid (Ext w1 wr)∧Hid (OwnRow 6 TnE 48 w1.heap.size wr vy (ys.take j))) (fun _ t _=>l.W.length - (intOf t).toNat)
  case atStart=>exact ⟨0,rfl,Nat.zero_le _,hX2,by rw [List.take_zero];exact hO2⟩
  case round=>
   obtain ⟨j,rfl,hj,hX7,hO7⟩:=hrel
   obtain ⟨w7,hw7⟩:∃ w0:World,w0=wr:=⟨_,rfl⟩
   subst hw7
   have hlw:=HLL.out.1.1
   obtain ⟨ay,ky,hvy,-,-⟩:=hO7.out.rd.shape
   generalize (ys.take j).length=ny at hvy
   subst hvy
   by_cases hjl:j < l.W.length
   ·have hjb:j < l.B.length:=by have:=HBW.out;omega
    have hd1:decide ((j:Int) < (l.W.length:Int))=true:=decide_eq_true (by omega)
    have HK1:IntKind.i64.wrap ((j:Int)+1)=((j+1:Nat):Int):=by rw [IntKind.wrap_i64];omega
    have HK2:(0:Int)≤(j:Int)∧(j:Int) < (l.W.length:Int):=⟨by omega,by omega⟩
    have HK3:(0:Int)≤(j:Int)∧(j:Int) < (l.B.length:Int):=⟨by omega,by omega⟩
    have hsz7:w1.heap.size≤w7.heap.size:=Below.size hX7.out
    obtain ⟨bW,oW,xr,mr,hxe,hcell,hrr⟩:=(HRW.out.ext (fun h x=>RowT.ext h OwnP.ext x) b1).row j hjl
    subst hxe
    obtain ⟨bB,oB,cs,hbe,hcl,hT,hc⟩:=(HRB.out.ext OwnP.ext b1).at (by decide) j hjb
    subst hbe
    obtain ⟨q1,q2,q3,q4,rfl⟩:=cells_P (OwnP.rd hT)
    have CB1:Hid (Bo w1 bB (oB+j*3) [.bool (decide (l.B[j].num < 0)),.slice q1 (bitsOf l.B[j].num.natAbs).length q2,.slice q3 (bitsOf l.B[j].den).length q4]):=Bo.of hc
    have HQ:Hid (OwnP 4 0 w1 (.agg #[.bool (decide (l.B[j].num < 0)),.slice q1 (bitsOf l.B[j].num.natAbs).length q2,.slice q3 (bitsOf l.B[j].den).length q4]) l.B[j]):=hT
    have HSN:=Lib.hid (HYT.out j hjl hjb)
    have HWE:Hid (∀ w',Ext w7 w'→Calls Try.prog 23 #[.slice xr l.W[j].length mr,.agg #[.bool (decide (l.B[j].num < 0)),.slice q1 (bitsOf l.B[j].num.natAbs).length q2,.slice q3 (bitsOf l.B[j].den).length q4],.slice ax2 g.length cx2] w' (Gives w' fun v' w'=>OwnE 4 0 w' v' (wfold (l.W[j].zip g) (l.B[j],l.B[j])).1 (wfold (l.W[j].zip g) (l.B[j],l.B[j])).2)):=fun w' x=>r17weigh_own (RdRow.mono (hrr.ext OwnP.ext (Ext.trans hX7.out x)) fun _ _ h=>OwnP.rd h) (RdRow.mono (HX1.out.ext OwnE.ext (Ext.trans hX7.out x)) fun _ _ h=>OwnE.rd h) (by have h1:=HRL.out _ (List.getElem_mem hjl);have h2:=HXI.out;omega) (HQ.out.ext (Ext.trans hX7.out x)) (HSS.out.1 _ (List.getElem_mem hjl)) HXC.out (HSS.out.2 _ (List.getElem_mem hjb)) (by decide) (by have h1:=HRL.out _ (List.getElem_mem hjl);have h2:=HW4.out;omega)
    have CW1:=Lib.hid (Bo.one hcell)
    clear hT hc hcl hrr HQ hcell
    generalize Value.bool (decide (l.B[j].num < 0))=z0 at*
    generalize Value.slice q1 (bitsOf l.B[j].num.natAbs).length q2=z1 at*
    generalize Value.slice q3 (bitsOf l.B[j].den).length q4=z2 at*
    generalize wfold (l.W[j].zip g) (l.B[j],l.B[j])=f at*
    generalize l.W[j]=rr at*
    have CL7:=Lib.hid (C1.out.ext hX7.out)
    have CW7:=Lib.hid (CW1.out.ext hX7.out)
    have CB7:=Lib.hid (CB1.out.ext hX7.out)
    have HYK:Hid ((ys.take j).length≤4):=by show _≤_;rw [List.length_take];have:=HYL.out;omega
    generalize ys.take j=yj at*
    generalize hy2:ys.take (j+1)=yj2 at*
    have HY2:=Lib.hid hy2
    clear hy2
    go_upto_region 7 with (fail)
    have b8:=drew_ext w7
    have XE:=b8
    refine wp_region_noPanic ?_
    refine wp_region_held_drew (S:=fun w'=>(w'.cell? ⟨w.heap.size,0,none⟩=some (.int .i64 kq)∧w'.cell? ⟨w.heap.size,1,none⟩=some (.slice (some ⟨bW,oW,none⟩) l.W.length mw)∧w'.cell? ⟨w.heap.size,2,none⟩=some (.slice (some ⟨bB,oB,none⟩) l.B.length mb)∧w'.cell? ⟨w.heap.size,3,none⟩=some (.slice ag l.G.length mg))∧(w'.cell? ⟨bW,oW+j,none⟩=some (.slice xr rr.length mr))∧(w'.cell? ⟨bB,oB+j*3,none⟩=some (z0)∧w'.cell? ⟨bB,oB+j*3+1,none⟩=some (z1)∧w'.cell? ⟨bB,oB+j*3+2,none⟩=some (z2))) (by kernel_rfl) (⟨(CL7.out.ext XE).c4,(CW7.out.ext XE).c1,(CB7.out.ext XE).c3⟩) (fun hHeld=>?_)
    refine tkH 0 hHeld ?_
    simp only [jP,jA,jB,jC,jD,jE,jF]
    refine tkH 1 hHeld ?_
    simp only [jP,jA,jB,jC,jD,jE,jF]
    refine tkH 2 hHeld ?_
    simp only [jP,jA,jB,jC,jD,jE,jF]
    refine tkH 3 hHeld ?_
    simp only [jP,jA,jB,jC,jD,jE,jF]
    refine tkH 4 hHeld ?_
    simp only [jP,jA,jB,jC,jD,jE,jF]
    refine tkH 5 hHeld ?_
    simp only [jP,jA,jB,jC,jD,jE,jF]
    refine tkH 6 hHeld ?_
    simp only [jP,jA,jB,jC,jD,jE,jF]
    refine tkH 7 hHeld ?_
    simp only [jP,jA,jB,jC,jD,jE,jF]
    refine tkH 8 hHeld ?_
    simp only [jP,jA,jB,jC,jD,jE,jF]
    refine tkH 9 hHeld ?_
    simp only [jP,jA,jB,jC,jD,jE,jF]
    refine tkH 10 hHeld ?_
    simp only [jP,jA,jB,jC,jD,jE,jF]
    refine tkH 11 hHeld ?_
    simp only [jP,jA,jB,jC,jD,jE,jF]
    refine rdH 12 (by kernel_rfl) rfl (fun K hK=>?_)
    go_simp
    go_at_call 23;refine (HWE.out _ XE).mono ?_;rintro e w9 ⟨v9,rfl,b9,o9⟩;have O9:=Lib.hid o9;clear o9;(first | have XE:=Ext.trans XE b9 | have XE:=Ext.trans (Ext.trans XE (Ext.alloc _ _)) b9);obtain ⟨t0,t1,t2,t3,t4,t5,t6,t7,t8,t9,t10,t11,t12,t13,rfl,P9⟩:=O9.out.op
    go_wp2_with fail
    refine hK.out _ _ (⟨(CL7.out.ext XE).c4,(CW7.out.ext XE).c1,(CB7.out.ext XE).c3⟩) (fun hHeld=>?_)
    clear hK K
    try simp only [jP,jA,jB,jC,jD,jE,jF]
    refine rdH 13 (by kernel_rfl) rfl (fun K hK=>?_)
    refine if_wantedL rfl ?_
    refine build1K et17P (by rfl) (T:=TnE) tne_ext (by rfl) [.bool t0,.slice t1 t2 t3,.slice t4 t5 t6,.bool t7,.slice t8 t9 t10,.slice t11 t12 t13] (fill_d1 ..) rfl (by decide) (y:=f) P9.out ?_
    intro g20 w20 x20 _ l20
    have XE:=Ext.trans XE x20
    have L20:=Lib.hid l20.rd
    clear l20
    refine hK.out _ _ ⟨(CL7.out.ext XE).c4,(CW7.out.ext XE).c1,(CB7.out.ext XE).c3⟩ (fun hHeld=>?_)
    clear hK K
    try simp only [jP,jA,jB,jC,jD,jE,jF]
    refine rdH 14 (by kernel_rfl) rfl (fun K hK=>?_)
    refine if_wantedL rfl ?_
    refine append_rowG et17P (kdTe (by decide)) _ _ (by rfl) w1.heap.size (by rfl) (hO7.out.ext tne_ext XE) (by rfl) L20.out (by have:=HYK.out;omega) (by have:=HYK.out;unfold maxLen;omega) (Nat.le_trans hsz7 (Below.size XE)) ?_
    intro v10 w10 o10 b10 g10 _
    have XW:=Lib.hid (Below.trans hX7.out (Below.trans (Below.mono XE hsz7) b10))
    have O10:=Lib.hid o10
    refine hK.out _ _ ⟨(C1.out.ext XW.out).c4,(CW1.out.ext XW.out).c1,(CB1.out.ext XW.out).c3⟩ (fun hHeld=>?_)
    clear hK K o10
    try simp only [jP,jA,jB,jC,jD,jE,jF]
    refine tkH 15 hHeld ?_
    simp only [jP,jA,jB,jC,jD,jE,jF]
    refine wpAnyH_done (by kernel_rfl) ?_ _
    refine NoPanic.normal ?_
    go_wp2_with fail
    go_roundw
    case rel=>exact ⟨j+1,by go_num,by omega,XW.out,by rw [HY2.out,HSN.out];exact O10.out⟩
    case measure=>simp [intOf] <;> omega
   ·obtain rfl:j=l.W.length:=by omega
    have hd1:decide ((l.W.length:Int) < (l.W.length:Int))=false:=decide_eq_false (by omega)
    rw [List.take_of_length_le (by have:=HYL.out;omega)] at hO7
    go_wp2_with fail
    exact hR.out _ _ (Gives.mk (Ext.trans b1 hX7.out) (by rw [HYS.out];exact hO7.out.mono (Nat.zero_le _)))
 ·have he1:(l.K == 1)=false:=beq_false_of_ne (by omega)
  have he2:(l.K == 2)=true:=by rw [h1];rfl
  obtain ⟨hyl,hyt⟩:=stepS_two (x:=g) h1
  have HYL:=Lib.hid hyl
  have HYT:=Lib.hid hyt
  obtain ⟨ys,hys⟩:∃ ys,stepS l g=ys:=⟨_,rfl⟩
  rw [hys] at HYL HYT
  have HYS:=Lib.hid hys
  clear hyl hyt hys h1
  generalize l.K=kq at*
  go_wp2_with fail
  clear u0 u1 u2 u3 he1 he2
  go_loopw [5,45] (fun vy t wr=>∃ j:Nat,t=.int .i64 j∧j≤g.length∧Hid (Ext w1 wr)∧Hid (OwnRow 6 TnE 48 w1.heap.size wr vy (ys.take j))) (fun _ t _=>g.length - (intOf t).toNat)
  case atStart=>exact ⟨0,rfl,Nat.zero_le _,hX2,by rw [List.take_zero];exact hO2⟩
  case round=>
   obtain ⟨j,rfl,hj,hX7,hO7⟩:=hrel
   obtain ⟨w7,hw7⟩:∃ w0:World,w0=wr:=⟨_,rfl⟩
   subst hw7
   have hgl:=HXN.out
   obtain ⟨ay,ky,hvy,-,-⟩:=hO7.out.rd.shape
   generalize (ys.take j).length=ny at hvy
   subst hvy
   by_cases hjl:j < g.length
   ·have hd1:decide ((j:Int) < (g.length:Int))=true:=decide_eq_true (by omega)
    have HK1:IntKind.i64.wrap ((j:Int)+1)=((j+1:Nat):Int):=by rw [IntKind.wrap_i64];omega
    have HK2:(0:Int)≤(j:Int)∧(j:Int) < (g.length:Int):=⟨by omega,by omega⟩
    obtain ⟨bB,oB,cs,hbe,hcl,hT,hc⟩:=(HX1.out.ext OwnE.ext hX7.out).at (by decide) j hjl
    subst hbe
    obtain ⟨y0,y1,y2,y3,y4,y5,rfl,hq1,hq2⟩:=cells_EO hT
    obtain ⟨e0,e1,e2,e3,e4,e5⟩:=(Bo.of hc).c6
    obtain ⟨p0,p1,p2,p3,p4,p5,p6,rfl,rfl,rfl⟩:=RdP.op3 hq1.rd
    obtain ⟨r0,r1,r2,r3,r4,r5,r6,rfl,rfl,rfl⟩:=RdP.op3 hq2.rd
    obtain ⟨w8,hw8,b8,c8,-,-⟩:=bx1 w7 [.bool p0,.slice p1 p2 p3,.slice p4 p5 p6,.bool r0,.slice r1 r2 r3,.slice r4 r5 r6] 48
    have HW8:=Lib.hid hw8
    have HRE:=Lib.hid (r17relu_own (OwnE.ext (OwnE.mk6 hq1 hq2) b8) ((HXC.out _ (List.getElem_mem hjl)).1.bits.le (by decide)) ((HXC.out _ (List.getElem_mem hjl)).2.bits.le (by decide)))
    obtain ⟨k0,k1,k2,k3,k4,k5⟩:=c8.c6
    have HSN:=Lib.hid (HYT.out j hjl)
    clear hT hc hcl hq1 hq2 c8 hw8
    have HYK:Hid ((ys.take j).length≤4):=by show _≤_;rw [List.length_take];have:=HYL.out;omega
    generalize ys.take j=yj at*
    generalize hy2:ys.take (j+1)=yj2 at*
    have HY2:=Lib.hid hy2
    clear hy2
    go_upto_region 13 with (fail)
    rw [← HW8.out]
    clear HW8 e0 e1 e2 e3 e4 e5
    generalize mx g[j].1 0=m1 at*
    generalize mx g[j].2 0=m2 at*
    go_wp2_with fail
    refine HRE.out.mono ?_
    rintro e w9 ⟨v9,rfl,b9,O9⟩
    clear HRE k0 k1 k2 k3 k4 k5
    obtain ⟨t0,t1,t2,t3,t4,t5,t6,t7,t8,t9,t10,t11,t12,t13,rfl,P9⟩:=O9.op
    have hX9:=Ext.trans hX7.out (Ext.trans b8 b9)
    have hO9:=Lib.hid (hO7.out.ext OwnE.ext (Ext.trans b8 b9))
    go_wp2_with (at_builtin;refine append_rowL (y:=(m1,m2)) et17P (kdTe (by decide)) (by rfl) _ _ (by rfl) w1.heap.size (by rfl) _ (by rfl) hO9.out rfl P9.out (Below.size hX9) (by have:=HYK.out;omega) (by have:=HYK.out;unfold maxLen;omega) ?_;intro v10 w10 o10 b10 g10)
    go_roundw
    case rel=>exact ⟨j+1,by go_num,by omega,Below.trans hX9 b10,by rw [HY2.out,HSN.out];exact o10⟩
    case measure=>simp [intOf] <;> omega
   ·obtain rfl:j=g.length:=by omega
    have hd1:decide ((g.length:Int) < (g.length:Int))=false:=decide_eq_false (by omega)
    rw [List.take_of_length_le (by have:=HYL.out;omega)] at hO7
    go_wp2_with fail
    exact hR.out _ _ (Gives.mk (Ext.trans b1 hX7.out) (by rw [HYS.out];exact hO7.out.mono (Nat.zero_le _)))
 ·have he1:(l.K == 1)=false:=beq_false_of_ne (by omega)
  have he2:(l.K == 2)=false:=beq_false_of_ne (by omega)
  have he3:(l.K == 3)=true:=by rw [h1];rfl
  obtain ⟨hyl,hyt⟩:=stepS_three (x:=g) h1
  have HYL:=Lib.hid hyl
  have HYT:=Lib.hid hyt
  have HGI:=Lib.hid hgi
  obtain ⟨ys,hys⟩:∃ ys,stepS l g=ys:=⟨_,rfl⟩
  rw [hys] at HYL HYT
  have HYS:=Lib.hid hys
  clear hyl hyt hys h1 hgi
  generalize l.K=kq at*
  go_wp2_with fail
  clear u0 u1 u2 u3 he1 he2
  go_loopw [5,60] (fun vy t wr=>∃ j:Nat,t=.int .i64 j∧j≤l.G.length∧Hid (Ext w1 wr)∧Hid (OwnRow 6 TnE 48 w1.heap.size wr vy (ys.take j))) (fun _ t _=>l.G.length - (intOf t).toNat)
  case atStart=>exact ⟨0,rfl,Nat.zero_le _,hX2,by rw [List.take_zero];exact hO2⟩
  case round=>
   obtain ⟨j,rfl,hj,hX7,hO7⟩:=hrel
   obtain ⟨w7,hw7⟩:∃ w0:World,w0=wr:=⟨_,rfl⟩
   subst hw7
   have hlg:=HLL.out.1.2.2
   obtain ⟨ay,ky,hvy,-,-⟩:=hO7.out.rd.shape
   generalize (ys.take j).length=ny at hvy
   subst hvy
   by_cases hjl:j < l.G.length
   ·have hd1:decide ((j:Int) < (l.G.length:Int))=true:=decide_eq_true (by omega)
    have HK1:IntKind.i64.wrap ((j:Int)+1)=((j+1:Nat):Int):=by rw [IntKind.wrap_i64];omega
    have HK2:(0:Int)≤(j:Int)∧(j:Int) < (l.G.length:Int):=⟨by omega,by omega⟩
    have hx17:=Ext.trans b1 hX7.out
    obtain ⟨bG,oG,xr,mr,hxe,hcell,hrr⟩:=(HRG.out.ext (fun h x=>RowT.ext h IntT.ext x) hx17).row j hjl
    subst hxe
    have HSN:=Lib.hid (HYT.out j hjl)
    have HG4:=Lib.hid (HLL.out.2.2 _ (List.getElem_mem hjl))
    have HGR:=Lib.hid (HGI.out _ (List.getElem_mem hjl))
    have HRR:=Lib.hid hrr
    generalize l.G[j]=gg at*
    clear hrr
    have HYK:Hid ((ys.take j).length≤4):=by show _≤_;rw [List.length_take];have:=HYL.out;omega
    generalize ys.take j=yj at*
    generalize hy2:ys.take (j+1)=yj2 at*
    have HY2:=Lib.hid hy2
    clear hy2
    go_upto_region 19 with (fail)
    clear hcell
    go_cut [11] (fun s11 wx=>Ext w7 wx∧Hid (OwnRow 6 TnE 48 w7.heap.size wx s11 []))
    case first=>
     go_wp2_with fail
     go_meet
     exact ⟨Ext.alloc _ _,OwnRow.nilLit _ (Nat.le_refl _)⟩
    obtain ⟨hX3,hO3⟩:=hcut
    obtain ⟨w3,hw3⟩:∃ w0:World,w0=wc:=⟨_,rfl⟩
    subst hw3
    go_wp2_with fail
    go_loopw [11,67] (fun vm t wr=>∃ p:Nat,t=.int .i64 p∧p≤gg.length∧Hid (Ext w7 wr)∧Hid (OwnRow 6 TnE 48 w7.heap.size wr vm ((pick g gg).take p))) (fun _ t _=>gg.length - (intOf t).toNat)
    case atStart=>exact ⟨0,rfl,Nat.zero_le _,hX3,by rw [List.take_zero];exact hO3⟩
    case round=>
     obtain ⟨p,rfl,hp,hX8,hO8⟩:=hrel
     obtain ⟨w8,hw8⟩:∃ w0:World,w0=wr:=⟨_,rfl⟩
     subst hw8
     have hgl:=HG4.out
     by_cases hpl:p < gg.length
     ·have hd2:decide ((p:Int) < (gg.length:Int))=true:=decide_eq_true (by omega)
      have HP1:IntKind.i64.wrap ((p:Int)+1)=((p+1:Nat):Int):=by rw [IntKind.wrap_i64];omega
      have HP2:(0:Int)≤(p:Int)∧(p:Int) < (gg.length:Int):=⟨by omega,by omega⟩
      obtain ⟨ai,oi,rfl⟩:=HRR.out.some_atI hpl
      have hci:=Ext.cell hX8.out (HRR.out.int p hpl)
      obtain ⟨hz0,hz1⟩:=HGR.out.2 _ (List.getElem_mem hpl)
      obtain ⟨q,hq⟩:=Int.eq_ofNat_of_zero_le hz0
      have hqg:q < g.length:=by have:=HXI.out;omega
      have HPT:=Lib.hid (pick_take hpl hq hqg)
      rw [hq] at hci
      have HP3:(0:Int)≤(q:Int)∧(q:Int) < (g.length:Int):=⟨by omega,by omega⟩
      obtain ⟨bB,oB,cs,hbe,hcl,hT,hc⟩:=(HX1.out.ext OwnE.ext (Ext.trans hX7.out hX8.out)).at (by decide) q hqg
      subst hbe
      obtain ⟨y0,y1,y2,y3,y4,y5,rfl,hq1,hq2⟩:=cells_EO hT
      obtain ⟨e0,e1,e2,e3,e4,e5⟩:=(Bo.of hc).c6
      obtain ⟨_,_,_,_,_,_,_,rfl,rfl,rfl⟩:=RdP.op3 hq1.rd
      obtain ⟨_,_,_,_,_,_,_,rfl,rfl,rfl⟩:=RdP.op3 hq2.rd
      have HD:=Lib.hid (OwnE.mk6 hq1 hq2)
      clear hT hc hcl hq1 hq2 hz0 hz1 hq
      have HPK:Hid (((pick g gg).take p).length≤4):=by show _≤_;rw [List.length_take];omega
      generalize (pick g gg).take p=pj at*
      generalize hy3:(pick g gg).take (p+1)=pj2 at*
      have HY3:=Lib.hid hy3
      clear hy3
      generalize g[q]=gq at*
      obtain ⟨am,km,rfl,-,-⟩:=hO8.out.rd.shape
      go_wp2_with (at_builtin;refine append_rowL (y:=gq) et17P (kdTe (by decide)) (by rfl) _ _ (by rfl) w7.heap.size (by rfl) _ (by rfl) hO8.out rfl HD.out (Below.size hX8.out) (by have:=HPK.out;omega) (by have:=HPK.out;unfold maxLen;omega) ?_;intro v10 w10 o10 b10 g10)
      go_roundw
      case rel=>exact ⟨p+1,by go_num,by omega,Below.trans hX8.out b10,by rw [HY3.out,HPT.out];exact o10⟩
      case measure=>simp [intOf] <;> omega
     ·obtain rfl:p=gg.length:=by omega
      have hd2:decide ((gg.length:Int) < (gg.length:Int))=false:=decide_eq_false (by omega)
      rw [List.take_of_length_le (by rw [pick_len];exact Nat.le_refl _)] at hO8
      have hpp:0 < (pick g gg).length:=by rw [pick_len];exact List.length_pos_iff.2 HGR.out.1
      have HMX:=r17max_own hO8.out.rd hpp (fun s hs=>⟨((HXC.out.pick (by decide) gg) s hs).1.bits.le (by decide),((HXC.out.pick (by decide) gg) s hs).2.bits.le (by decide)⟩)
      rw [← getD_lt (d:=(0,0)) hpp] at HMX
      replace HMX:=Lib.hid HMX
      clear hpp
      generalize mxs (pick g gg) ((pick g gg).getD 0 (0,0))=f at*
      generalize pick g gg=pk at*
      obtain ⟨am,km,rfl,-,-⟩:=hO8.out.rd.shape
      go_upto_region 25 with (fail)
      go_wp2_with fail
      refine HMX.out.mono ?_
      rintro e w9 ⟨v9,rfl,b9,O9⟩
      clear HMX
      obtain ⟨t0,t1,t2,t3,t4,t5,t6,t7,t8,t9,t10,t11,t12,t13,rfl,P9⟩:=O9.op
      have hX10:=Ext.trans hX7.out (Ext.trans hX8.out b9)
      have hO10:=Lib.hid (hO7.out.ext OwnE.ext (Ext.trans hX8.out b9))
      go_wp2_with (at_builtin;refine append_rowL (y:=f) et17P (kdTe (by decide)) (by rfl) _ _ (by rfl) w1.heap.size (by rfl) _ (by rfl) hO10.out rfl P9.out (Below.size hX10) (by have:=HYK.out;omega) (by have:=HYK.out;unfold maxLen;omega) ?_;intro v11 w11 o11 b11 g11)
      go_roundw
      case rel=>exact ⟨j+1,by go_num,by omega,Below.trans hX10 b11,by rw [HY2.out,HSN.out];exact o11⟩
      case measure=>simp [intOf] <;> omega
   ·obtain rfl:j=l.G.length:=by omega
    have hd1:decide ((l.G.length:Int) < (l.G.length:Int))=false:=decide_eq_false (by omega)
    rw [List.take_of_length_le (by have:=HYL.out;omega)] at hO7
    go_wp2_with fail
    exact hR.out _ _ (Gives.mk (Ext.trans b1 hX7.out) (by rw [HYS.out];exact hO7.out.mono (Nat.zero_le _)))
end Go.Proofs.Ytnbbhpihlcglgaa
