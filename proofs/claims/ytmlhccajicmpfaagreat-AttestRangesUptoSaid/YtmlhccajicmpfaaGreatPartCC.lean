/- A group of texts: PTblDo, PIntern, PIntern2, RowApp -/
import Derived.Test.YtmlhccajicmpfaaGreatSq
import Derived.Test.YtmlhccajicmpfaaGreatPartCB
import Derived.Test.YtmlhccajicmpfaaGreatPartCA
import Derived.Test.YtmlhccajicmpfaaGreatPartAC
set_option maxHeartbeats 40000000
set_option maxRecDepth 100000
set_option linter.unusedSimpArgs false
namespace Go.Att
theorem GdN.of {a k x y:Int} {m:Nat} (h0:0≤k) (h6:k≤6) (hx:0≤x) (hy:0≤y) (hx':x < 1000000) (hy':y < 1000000) (h3:k=3→x < a) (hn:k≠3→x < m∧y < m):GdN a m (k,x,y):=⟨h0,h6,hx,hy,hx',hy',h3,hn⟩
end Go.Att
namespace Go.Proofs.YtmlhccajicmpfaaGreat
open Go.RowKit Go.Att

abbrev TbPost (B b:Nat) (at':Int) (n:Nat) (v':Value) (w':World):Prop:=∃ (i:Int) (ok:Bool) (n':Nat),v'=.tuple #[.int .i64 i,.bool ok]∧n≤n'∧0≤i∧i < n'∧Tb B b at' n' w'
theorem tnot_any {B b n:Nat} {at' i:Int} {w:World} (h:Tb B b at' n w) (h0:0≤i) (h1:i < n):
  Calls Tryz.prog 151 #[.pointer (some ⟨b,0,none⟩),.int .i64 i] w (GivB B w (TbPost B b at' n)):=by
 refine via fun R hR=>?_
 have HT:=qH h
 obtain ⟨ax,ac,m,L,hL,hGL,hC,hR2,hO,hM,hBm,-⟩:=h.op
 obtain ⟨q0,q1⟩:=hC.c2
 obtain ⟨bL,oL,k,y,z,rfl,hbo,hg⟩:=row_nd hL hGL hO h0 h1
 obtain ⟨u0,u1,u2⟩:=hbo.c3
 have HG:=qH hg
 have HI2:(0:Int)≤i∧i < (n:Int):=⟨h0,h1⟩
 have HBD:=qH h.bd
 obtain ⟨w4,hw4,b4,c4,-,-⟩:=bx1 w [.int .i64 k,.int .i64 y,.int .i64 z] 193
 have HW:=qH hw4
 have C4:=qH c4
 have HT4:=qH (h.ext b4)
 have B4:Hid (Below B w w4):=Below.mono b4 (by have:=HBD.out;omega)
 have HPUT:=qH (tput_any HT4.out (k:=4) (x:=i) (y:=0) (GdN.of dC dC h0 dC (by have:=HBD.out;omega) dC (fun h=>by cases h) fun _=>⟨h1,by have:=HBD.out;omega⟩))
 clear h hL hGL hC hR2 hO hM hBm hbo hg hw4 c4 h0 h1 HT
 go_enter Tryz.func151,Tryz.ntmps151
 go_upto_region 2 with (fail)
 rw [← HW.out]
 clear HW u0 u1 u2 q0 q1
 obtain ⟨u0,u1,u2⟩:=C4.out.c3
 by_cases k1:k=1
 ·subst k1
  go_wp2_with fail
  exact hR.out _ _ (GivB.mk B4.out ⟨1,true,n,rfl,Nat.le_refl _,by decide,by have:=HBD.out;omega,HT4.out⟩)
 have d1:(k == 1)=false:=beq_eq_false_iff_ne.2 k1
 by_cases k2:k=2
 ·subst k2
  clear k1 d1
  go_wp2_with fail
  exact hR.out _ _ (GivB.mk B4.out ⟨0,true,n,rfl,Nat.le_refl _,by decide,by have:=HBD.out;omega,HT4.out⟩)
 have d2:(k == 2)=false:=beq_eq_false_iff_ne.2 k2
 by_cases k4:k=4
 ·subst k4
  clear k1 d1 k2 d2
  have HY:Hid (0≤y∧y < n):=⟨HG.out.2.2.1,(HG.out.2.2.2.2.2.2.2 (show (4:Int)≠3 by decide)).1⟩
  go_wp2_with fail
  exact hR.out _ _ (GivB.mk B4.out ⟨y,true,n,rfl,Nat.le_refl _,HY.out.1,HY.out.2,HT4.out⟩)
 have d4:(k == 4)=false:=beq_eq_false_iff_ne.2 k4
 clear k1 k2 k4
 go_wp2_with fail
 refine HPUT.out.mono ?_
 rintro e w5 ⟨_,rfl,b5,r,ok,n',rfl,h1,h2,h3,h4⟩
 go_wp2_with fail
 exact hR.out _ _ (GivB.mk (Below.trans B4.out b5) ⟨r,ok,n',rfl,h1,h2,h3,h4⟩)
theorem tpair_any {B b n:Nat} {at' kd i j un ze:Int} {w:World} (h:Tb B b at' n w) (hk:kd=5∨kd=6) (h0:0≤i) (h1:i < n) (h2:0≤j) (h3:j < n) (h4:0≤ze) (h5:ze≤1):
  Calls Tryz.prog 152 #[.pointer (some ⟨b,0,none⟩),.int .i64 kd,.int .i64 i,.int .i64 j,.int .i64 un,.int .i64 ze] w (GivB B w (TbPost B b at' n)):=by
 refine via fun R hR=>?_
 have HT:=qH h
 have HBD:=qH h.bd
 have HK:=qH (topp_any h h0 h1 h2 h3)
 have HI:Hid (0≤i∧i < n∧0≤j∧j < n∧0≤ze∧ze≤1):=⟨h0,h1,h2,h3,h4,h5⟩
 have HKD:=qH hk
 clear h h0 h1 h2 h3 h4 h5 hk
 go_enter Tryz.func152,Tryz.ntmps152
 by_cases e1:i=ze
 ·have d1:(i == ze)=true:=beq_iff_eq.2 e1
  clear e1
  go_wp2_with fail
  exact hR.out _ _ (GivB.mk (Below.refl _ _) ⟨ze,true,n,rfl,Nat.le_refl _,by have:=HI.out;omega,by have:=HI.out;have:=HBD.out;omega,HT.out⟩)
 have d1:(i == ze)=false:=beq_eq_false_iff_ne.2 e1
 clear e1
 by_cases e2:j=ze
 ·have d2:(j == ze)=true:=beq_iff_eq.2 e2
  clear e2
  go_wp2_with fail
  exact hR.out _ _ (GivB.mk (Below.refl _ _) ⟨ze,true,n,rfl,Nat.le_refl _,by have:=HI.out;omega,by have:=HI.out;have:=HBD.out;omega,HT.out⟩)
 have d2:(j == ze)=false:=beq_eq_false_iff_ne.2 e2
 clear e2
 go_wp2_with fail
 refine HK.out.mono ?_
 rintro e w1 ⟨_,rfl,b1,ok,rfl⟩
 have B1:Hid (Below B w w1):=Below.mono b1 (by have:=HBD.out;omega)
 have HT1:=qH (HT.out.ext b1)
 have HPUT:Hid (∀ x y:Int,(0≤x∧x < n)→(0≤y∧y < n)→Calls Tryz.prog 150 #[.pointer (some ⟨b,0,none⟩),.agg #[.int .i64 kd,.int .i64 x,.int .i64 y]] w1 (GivB B w1 (TbPost B b at' n))):=fun x y hx hy=>
  tput_any HT1.out (by have h1:=HBD.out;have h2:=HKD.out;exact GdN.of oM oM hx.1 hy.1 oM oM (fun h=>by omega) fun _=>⟨hx.2,hy.2⟩)
 clear HK HT
 cases ok with
 | true=>
  go_wp2_with fail
  exact hR.out _ _ (GivB.mk B1.out ⟨ze,true,n,rfl,Nat.le_refl _,by have:=HI.out;omega,by have:=HI.out;have:=HBD.out;omega,HT1.out⟩)
 | false=>
  by_cases e3:i=un
  ·have d3:(i == un)=true:=beq_iff_eq.2 e3
   clear e3
   go_wp2_with fail
   exact hR.out _ _ (GivB.mk B1.out ⟨j,true,n,rfl,Nat.le_refl _,by have:=HI.out;omega,by have:=HI.out;omega,HT1.out⟩)
  have d3:(i == un)=false:=beq_eq_false_iff_ne.2 e3
  clear e3
  by_cases e4:i=j
  ·have d4:(i == j)=true:=beq_iff_eq.2 e4
   clear e4
   go_wp2_with fail
   exact hR.out _ _ (GivB.mk B1.out ⟨j,true,n,rfl,Nat.le_refl _,by have:=HI.out;omega,by have:=HI.out;omega,HT1.out⟩)
  have d4:(i == j)=false:=beq_eq_false_iff_ne.2 e4
  clear e4
  by_cases e5:j=un
  ·have d5:(j == un)=true:=beq_iff_eq.2 e5
   clear e5
   go_wp2_with fail
   exact hR.out _ _ (GivB.mk B1.out ⟨i,true,n,rfl,Nat.le_refl _,by have:=HI.out;omega,by have:=HI.out;omega,HT1.out⟩)
  have d5:(j == un)=false:=beq_eq_false_iff_ne.2 e5
  clear e5
  go_wp2_with fail
  refine (HPUT.out _ _ ?_ ?_).mono ?_
  ·have:=HI.out;omega
  ·have:=HI.out;omega
  rintro e w5 ⟨_,rfl,b5,r,ok,n',rfl,h1,h2,h3,h4⟩
  go_wp2_with fail
  exact hR.out _ _ (GivB.mk (Below.trans B1.out b5) ⟨r,ok,n',rfl,h1,h2,h3,h4⟩)
theorem tin_any {E:Nat} {i n:Int} {w:World} (h:w.cell? ⟨E,0,none⟩=some (.int .i64 n)):
  Calls Tryz.prog 149 #[.int .i64 i,.pointer (some ⟨E,0,none⟩)] w (Gives w fun v' _=>v'=.bool (decide (0≤i) && decide (i < n))):=by
 refine via fun R hR=>?_
 go_enter Tryz.func149,Tryz.ntmps149
 by_cases h0:0≤i
 ·have d1:decide (i ≥ 0)=true:=decide_eq_true h0
  have d2:decide (0≤i)=true:=decide_eq_true h0
  rw [d2] at hR
  clear h0
  go_wp2_with fail
  exact hR.out _ _ (Gives.mk (Ext.refl _) (by first | rfl | (rw [Bool.true_and];rfl) | rw [Bool.true_and]))
 have d1:decide (i ≥ 0)=false:=decide_eq_false h0
 have d2:decide (0≤i)=false:=decide_eq_false h0
 rw [d2] at hR
 clear h0
 go_wp2_with fail
 exact hR.out _ _ (Gives.mk (Ext.refl _) rfl)
theorem tdo_any {B b n:Nat} {at' k x y:Int} {w:World} (h:Tb B b at' n w) (hg:GdN at' n (k,x,y)) (h3:3≤k):
  Calls Tryz.prog 140 #[.pointer (some ⟨b,0,none⟩),.agg #[.int .i64 k,.int .i64 x,.int .i64 y]] w (GivB B w (TbPost B b at' n)):=by
 refine via fun R hR=>?_
 have HT:=qH h
 have HBD:=qH h.bd
 have HG:=qH hg
 have H3:=qH h3
 obtain ⟨w1,hw1,b1,c1,-,-⟩:=bx1 w [.int .i64 k,.int .i64 x,.int .i64 y] 262
 have HW:=qH hw1
 have C1:=qH c1
 have HK:=qH (tlen_any (h.ext b1))
 clear hw1 c1 h hg h3
 go_enter Tryz.func140,Tryz.ntmps140
 go_upto_region 1 with (fail)
 rw [← HW.out]
 clear HW
 go_wp2_with fail
 refine HK.out.mono ?_
 rintro e w2 ⟨_,rfl,b2,rfl⟩
 obtain ⟨w3,hw3,b3,c3,-,-⟩:=bx1 w2 [.int .i64 n] 3
 have HW:=qH hw3
 have C3:=qH c3
 have b13:=eT b1 (eT b2 b3)
 have HT3:=qH (HT.out.ext b13)
 have B3:Hid (Below B w w3):=Below.mono b13 (by have:=HBD.out;omega)
 have C13:=qH (C1.out.ext (eT b2 b3))
 have HIN:Hid (∀ w',Ext w3 w'→∀ i:Int,(0≤i∧i < n)→Calls Tryz.prog 149 #[.int .i64 i,.pointer (some ⟨w2.heap.size,0,none⟩)] w' (Gives w' fun v' _=>v'=.bool true)):=fun w' xx i hi=>(tin_any (i:=i) (n:=n) (C3.out.ext xx).c1).mono fun _ _ ⟨v,e,b,hv⟩=>⟨v,e,b,by rw [hv,decide_eq_true hi.1,decide_eq_true hi.2];rfl⟩
 have hn0:((n:Int) == 0)=false:=beq_eq_false_iff_ne.2 (by have:=HBD.out;omega)
 clear hw3 c3 HK C1 HT b13
 obtain ⟨u0,u1,u2⟩:=C13.out.c3
 have e0:=C3.out.c1
 go_upto_region 2 with (fail)
 rw [← HW.out]
 clear HW
 have HB3:Hid (B≤w3.heap.size):=by have:=Below.size B3.out;have:=HBD.out;exact qH oM
 by_cases k3:k=3
 ·subst k3
  have d1:decide (x ≥ 0)=true:=decide_eq_true HG.out.2.2.1
  have d2:decide (0≤x)=true:=decide_eq_true HG.out.2.2.1
  have HPUT:=qH (tput_any HT3.out (k:=3) (x:=x) (y:=0) (GdN.of dC dC HG.out.2.2.1 dC HG.out.2.2.2.2.1 dC (fun _=>HG.out.2.2.2.2.2.2.1 rfl) fun h=>absurd rfl h))
  go_wp2_with fail
  refine HPUT.out.mono ?_
  rintro e w5 ⟨_,rfl,b5,r,ok,n',rfl,h1,h2,h3,h4⟩
  go_wp2_with fail
  exact hR.out _ _ (GivB.mk (Below.trans B3.out b5) ⟨r,ok,n',rfl,h1,h2,h3,h4⟩)
 have HXY:Hid ((0≤x∧x < n)∧(0≤y∧y < n)):=⟨⟨HG.out.2.2.1,(HG.out.2.2.2.2.2.2.2 k3).1⟩,HG.out.2.2.2.1,(HG.out.2.2.2.2.2.2.2 k3).2⟩
 have HX:=qH (HIN.out _ (Ext.refl _) x HXY.out.1)
 by_cases k4:k=4
 ·subst k4
  go_wp2_with fail
  refine HX.out.mono ?_
  rintro e w4 ⟨_,rfl,b4,rfl⟩
  have HNOT:=qH (tnot_any (HT3.out.ext b4) HXY.out.1.1 HXY.out.1.2)
  clear u0 u1 u2
  obtain ⟨u0,u1,u2⟩:=(C13.out.ext b4).c3
  go_wp2_with fail
  refine HNOT.out.mono ?_
  rintro e w5 ⟨_,rfl,b5,r,ok,n',rfl,h1,h2,h3,h4⟩
  go_wp2_with fail
  exact hR.out _ _ (GivB.mk (Below.trans (Below.trans B3.out (Below.mono b4 HB3.out)) b5) ⟨r,ok,n',rfl,h1,h2,h3,h4⟩)
 by_cases k5:k=5
 ·subst k5
  go_wp2_with fail
  refine HX.out.mono ?_
  rintro e w4 ⟨_,rfl,b4,rfl⟩
  have HY:=qH (HIN.out _ b4 y HXY.out.2)
  clear u0 u1 u2
  obtain ⟨u0,u1,u2⟩:=(C13.out.ext b4).c3
  go_wp2_with fail
  refine HY.out.mono ?_
  rintro e w6 ⟨_,rfl,b6,rfl⟩
  have HPR:=qH (tpair_any (HT3.out.ext (eT b4 b6)) (kd:=5) (un:=1) (ze:=0) (.inl rfl) HXY.out.1.1 HXY.out.1.2 HXY.out.2.1 HXY.out.2.2 dC dC)
  clear u0 u1 u2
  obtain ⟨u0,u1,u2⟩:=(C13.out.ext (eT b4 b6)).c3
  go_wp2_with fail
  refine HPR.out.mono ?_
  rintro e w5 ⟨_,rfl,b5,r,ok,n',rfl,h1,h2,h3,h4⟩
  go_wp2_with fail
  exact hR.out _ _ (GivB.mk (Below.trans (Below.trans B3.out (Below.mono (eT b4 b6) HB3.out)) b5) ⟨r,ok,n',rfl,h1,h2,h3,h4⟩)
 obtain rfl:k=6:=by have:=H3.out;have:=HG.out.2.1;dsimp only at *;omega
 clear k3 k4 k5
 go_wp2_with fail
 refine HX.out.mono ?_
 rintro e w4 ⟨_,rfl,b4,rfl⟩
 have HY:=qH (HIN.out _ b4 y HXY.out.2)
 clear u0 u1 u2
 obtain ⟨u0,u1,u2⟩:=(C13.out.ext b4).c3
 go_wp2_with fail
 refine HY.out.mono ?_
 rintro e w6 ⟨_,rfl,b6,rfl⟩
 have HPR:=qH (tpair_any (HT3.out.ext (eT b4 b6)) (kd:=6) (un:=0) (ze:=1) (.inr rfl) HXY.out.1.1 HXY.out.1.2 HXY.out.2.1 HXY.out.2.2 dC dC)
 clear u0 u1 u2
 obtain ⟨u0,u1,u2⟩:=(C13.out.ext (eT b4 b6)).c3
 go_wp2_with fail
 refine HPR.out.mono ?_
 rintro e w5 ⟨_,rfl,b5,r,ok,n',rfl,h1,h2,h3,h4⟩
 go_wp2_with fail
 exact hR.out _ _ (GivB.mk (Below.trans (Below.trans B3.out (Below.mono (eT b4 b6) HB3.out)) b5) ⟨r,ok,n',rfl,h1,h2,h3,h4⟩)
end Go.Proofs.YtmlhccajicmpfaaGreat

namespace Go.Att
open Go.RowKit
theorem wp_insertZ {P:Program} {k e:TypeId} {m n:Nat} {w:World} {key:Value} {kl:Lit} {o:Oper} {a:Act} {K:Act→World→Prop} {Q:Exit→Act→World→Prop} (mm x v:Operand) (t:TypeId) (hop:o.op=Op.insert t mm x v) (L:WideMaps.KeyLaw P k) (ht:P.underlying t=some (.map k e))
  (hm:a.eval mm=.map (some m)) (h:MapZ P k m n w) (hx:a.eval x=key) (hkey:keyOf P k key=some kl) {z:Int} (hv:a.eval v=.int .i64 z) (h0:0≤z) (h1:z < n) (hK:∀ w',MapZ P k m n w'→w.grownBy w' (some m)→K (a.put o.dst undef) w'):o.wp P a w K Q:=by
 obtain ⟨w',hrun,g1,g2⟩:=h.store L ht hkey h0 h1
 unfold Oper.wp
 simp [execOp,hop,hm,hx,hv,hrun,Result.andThen]
 exact hK w' g1 g2
theorem wp_makeZ {P:Program} {w:World} {o:Oper} {a:Act} {K:Act→World→Prop} {Q:Exit→Act→World→Prop} (t:TypeId) (hop:o.op=Op.makeMap t none) (hK:K (a.put o.dst (.map (some w.heap.size))) (w.alloc (.map #[] 0))):o.wp P a w K Q:=by
 unfold Oper.wp
 simp [execOp,hop,run_makeMap,Result.andThen]
 exact hK
theorem OwnRow.at_block {α:Type} {k B g n c:Nat} {T:World→Value→α→Prop} {e:TypeId} {w:World} {l:List α} (h:OwnRow k T e 0 w (.slice (some ⟨g,0,none⟩) n c) l) (hB:B≤g):OwnRow k T e B w (.slice (some ⟨g,0,none⟩) n c) l:=by
 obtain ⟨E,⟨h1,h2⟩,hP⟩:=h
 refine ⟨E,⟨h1,?_⟩,hP⟩
 rcases h2 with ⟨h2,h3⟩ | ⟨g',cap,cur,hv,hg,r⟩
 ·exact .inl ⟨h2,h3⟩
 simp only [Value.slice.injEq,Option.some.injEq,Addr.mk.injEq,and_true] at hv
 obtain ⟨rfl,hv2,hv3⟩:=hv
 exact .inr ⟨g,cap,cur,by simp [hv2,hv3],hB,r⟩
theorem RdFs.row {S:Nat→Prop} {n m c:Nat} {w:World} {f:Fm} {x:Option Addr} {u y:Value} (h:RdFs S (n+1) w (.agg #[u,y,.slice x m c]) f):RdRow 3 (RdFs S n) w (.slice x m c) f.sub:=by
 obtain ⟨s,he,-,h⟩:=h
 simp at he
 rw [he.2.2]
 exact h
theorem fill_n2 (x0 x1 x2 y0 y1 y2:Value):
  Instr.fill (fun i=>some (i*3,3)) ((Array.range (2*3)).map ((Value.agg #[.int .i64 0,.int .i64 0,.int .i64 0]).cells[· % (Value.agg #[.int .i64 0,.int .i64 0,.int .i64 0]).cells.size]!)) [(0,.agg #[x0,x1,x2]),(1,.agg #[y0,y1,y2])]=some #[x0,x1,x2,y0,y1,y2]:=by kernel_rfl
end Go.Att
namespace Go.Proofs.YtmlhccajicmpfaaGreat
open Go.RowKit Go.Att

theorem twake0_any {B b:Nat} {at':Int} {w:World} (hc:Bx w b [.slice none 0 0,.map none]) (hr:Rt w b 2 259) (hB:B≤b):
  Calls Tryz.prog 139 #[.pointer (some ⟨b,0,none⟩)] w (GivB B w fun v' w'=>v'=.tuple #[]∧Tb B b at' 2 w'):=by
 refine via fun R hR=>?_
 have HC:=qH hc
 have HRT:=qH hr
 have HBW:Hid (B≤w.heap.size):=by have:=hr.lt;exact qH oM
 have HB:=qH hB
 obtain ⟨q0,q1⟩:=hc.c2
 obtain ⟨_,_,r0,r1,g0,g1⟩:=hr.c2
 clear hc hr hB r0 r1
 go_enter Tryz.func139,Tryz.ntmps139
 go_upto_region 1 with (fail)
 go_wp2_with (refine build2W etNd rF rF (T:=NdT) NdT.ext rF rF [.int .i64 1,.int .i64 0,.int .i64 0] [.int .i64 2,.int .i64 0,.int .i64 0] (fill_n2 ..) rfl rfl dC (y:=(1,0,0)) (y':=(2,0,0)) rfl rfl ?_;intro g8 w1 x1 h8 l8;have L8:=qH l8;have X1:=qH x1;have H8:=qH h8;clear l8 q0 q1 g0 g1;obtain ⟨q0,q1⟩:=(HC.out.ext x1).c2;obtain ⟨_,_,r0,r1,g0,g1⟩:=(HRT.out.ext x1).c2)
 obtain ⟨w2,hw2⟩:∃ W,W=Att.putL w1 b 0 [.slice (some ⟨g8,0,none⟩) 2 2]:=⟨_,rfl⟩
 rw [show World.setCell w1 ⟨b,0,none⟩ (.slice (some ⟨g8,0,none⟩) 2 2)=w2 from hw2.symm]
 have HC2:Hid (Bx w2 b [.slice (some ⟨g8,0,none⟩) 2 2,.map none]):=by rw [hw2];exact qH ((HC.out.ext X1.out).setAt (HRT.out.ext X1.out) 0 dC _)
 have HRT2:Hid (Rt w2 b 2 259):=by rw [hw2];exact qH ((HRT.out.ext X1.out).setAt 0 _)
 have L2:Hid (OwnRow 3 NdT 193 B w2 (.slice (some ⟨g8,0,none⟩) 2 2) [(1,0,0),(2,0,0)]):=by rw [hw2];exact qH ((L8.out.at_block (by have:=H8.out;have:=HBW.out;omega)).putT (HRT.out.ext X1.out) dC 0 [_] fun _ _ h=>h)
 have X2:Hid (Below B w w2):=by rw [hw2];exact qH (putL_below HB.out [_] 0 (Below.mono X1.out HBW.out))
 have HBW2:Hid (B≤w2.heap.size):=by have:=HRT2.out.lt;have:=HB.out;exact qH oM
 obtain ⟨l0,hl0⟩:=ndKey (a:=1) (b:=0) (c:=0) dC dC dC
 obtain ⟨l1,hl1⟩:=ndKey (a:=2) (b:=0) (c:=0) dC dC dC
 have K0:=qH hl0
 have K1:=qH hl1
 clear hw2 q0 q1 r0 r1 g0 g1 hl0 hl1 HC HRT L8 X1 H8 x1 h8
 have b3:=drew_ext w2
 have XE:=b3
 refine wp_region_noPanic ?_
 refine wp_region_held_drew (S:=fun w'=>True) kR (trivial) (fun hHeld=>?_)
 refine tkH 0 hHeld ?_
 simp only [jP,jJ]
 refine tkH 2 hHeld ?_
 simp only [jP,jJ]
 refine tkH 4 hHeld ?_
 simp only [jP,jJ]
 refine rdH 1 kR rfl (fun K hK=>?_)
 refine if_wantedL rfl ?_
 refine wp_makeZ _ rF ?_
 have HM:Hid (MapZ Tryz.prog 193 w2.heap.size 2 (w2.drew.alloc (.map #[] 0))):=(MapZ.made (P:=Tryz.prog) (k:=193) w2.drew).mono (Nat.zero_le _)
 have XE:=eT XE (Ext.alloc _ (.map #[] 0))
 refine hK.out _ _ trivial (fun hHeld=>?_)
 clear hK K
 try simp only [jP,jJ]
 refine wpAnyH_ready (rs:=[3,5]) kR (by simp) ?_
 refine AllReadyH.cons (o:=_) rfl (fun K hK=>?_) (AllReadyH.cons (o:=_) rfl (fun K hK=>?_) AllReadyH.nil)
 ·skip
  refine if_wantedL rfl ?_
  refine wp_insertZ _ _ _ _ rF ndLaw Tryz.underlying257 rF HM.out rF K0.out (z:=0) rF dC dC ?_
  intro wn mn gn
  have HM:=qH mn
  have XE:=Below.grown XE gn (Below.size XE) (fun k hk=>by cases hk;exact Nat.le_refl _)
  clear mn gn
  refine hK.out _ _ trivial (fun hHeld=>?_)
  clear hK K
  try simp only [jP,jJ]
  refine rdH 5 kR rfl (fun K hK=>?_)
  refine if_wantedL rfl ?_
  refine wp_insertZ _ _ _ _ rF ndLaw Tryz.underlying257 rF HM.out rF K1.out (z:=1) rF dC dC ?_
  intro wn mn gn
  have HM:=qH mn
  have XE:=Below.grown XE gn (Below.size XE) (fun k hk=>by cases hk;exact Nat.le_refl _)
  clear mn gn
  refine hK.out _ _ trivial (fun hHeld=>?_)
  clear hK K
  try simp only [jP,jJ]
  refine tkH 6 hHeld ?_
  simp only [jP,jJ]
  refine tkH 7 hHeld ?_
  simp only [jP,jJ]
  refine tkH 8 hHeld ?_
  simp only [jP,jJ]
  refine rdH 9 kR rfl (fun K hK=>?_)
  obtain ⟨_,_,i0,i1,f0,f1⟩:=(HRT2.out.ext XE).c2
  go_simp
  refine hK.out _ _ trivial (fun hHeld=>?_)
  clear hK K
  try simp only [jP,jJ]
  refine dnH kR ?_
  go_wp2_with fail
  refine bodyPost_end (v:=.tuple #[]) kR rfl ?_
  have hbw:=HRT2.out.lt
  have hmb:w2.heap.size≠b:=by omega
  have hGL:GdL at' [(1,0,0),(2,0,0)]:=⟨by decide,by decide,fun n hn=>by
   simp at hn
   rcases hn with rfl | rfl
   ·exact GdN.of dC dC dC dC dC dC (fun h=>by cases h) fun _=>⟨by decide,by decide⟩
   exact GdN.of dC dC dC dC dC dC (fun h=>by cases h) fun _=>⟨by decide,by decide⟩⟩
  have hbel:Below B w (Att.putL wn b 1 [.map (some w2.heap.size)]):=putL_below HB.out [_] 1 (Below.trans X2.out (Below.mono XE HBW2.out))
  exact hR.out _ _ (GivB.mk hbel ⟨rfl,[(1,0,0),(2,0,0)],rfl,hGL,some ⟨g8,0,none⟩,2,w2.heap.size,(HC2.out.ext XE).setAt (HRT2.out.ext XE) 1 dC _,(HRT2.out.ext XE).setAt 1 _,(L2.out.ext NdT.ext XE).putT (HRT2.out.ext XE) dC 1 [_] (fun _ _ h=>h),HM.out.block (putL_block b hmb [.map (some w2.heap.size)] wn 1),by have:=HB.out;omega,HB.out⟩)
 skip
 refine if_wantedL rfl ?_
 refine wp_insertZ _ _ _ _ rF ndLaw Tryz.underlying257 rF HM.out rF K1.out (z:=1) rF dC dC ?_
 intro wn mn gn
 have HM:=qH mn
 have XE:=Below.grown XE gn (Below.size XE) (fun k hk=>by cases hk;exact Nat.le_refl _)
 clear mn gn
 refine hK.out _ _ trivial (fun hHeld=>?_)
 clear hK K
 try simp only [jP,jJ]
 refine rdH 3 kR rfl (fun K hK=>?_)
 refine if_wantedL rfl ?_
 refine wp_insertZ _ _ _ _ rF ndLaw Tryz.underlying257 rF HM.out rF K0.out (z:=0) rF dC dC ?_
 intro wn mn gn
 have HM:=qH mn
 have XE:=Below.grown XE gn (Below.size XE) (fun k hk=>by cases hk;exact Nat.le_refl _)
 clear mn gn
 refine hK.out _ _ trivial (fun hHeld=>?_)
 clear hK K
 try simp only [jP,jJ]
 refine tkH 6 hHeld ?_
 simp only [jP,jJ]
 refine tkH 7 hHeld ?_
 simp only [jP,jJ]
 refine tkH 8 hHeld ?_
 simp only [jP,jJ]
 refine rdH 9 kR rfl (fun K hK=>?_)
 obtain ⟨_,_,i0,i1,f0,f1⟩:=(HRT2.out.ext XE).c2
 go_simp
 refine hK.out _ _ trivial (fun hHeld=>?_)
 clear hK K
 try simp only [jP,jJ]
 refine dnH kR ?_
 go_wp2_with fail
 refine bodyPost_end (v:=.tuple #[]) kR rfl ?_
 have hbw:=HRT2.out.lt
 have hmb:w2.heap.size≠b:=by omega
 have hGL:GdL at' [(1,0,0),(2,0,0)]:=⟨by decide,by decide,fun n hn=>by
  simp at hn
  rcases hn with rfl | rfl
  ·exact GdN.of dC dC dC dC dC dC (fun h=>by cases h) fun _=>⟨by decide,by decide⟩
  exact GdN.of dC dC dC dC dC dC (fun h=>by cases h) fun _=>⟨by decide,by decide⟩⟩
 have hbel:Below B w (Att.putL wn b 1 [.map (some w2.heap.size)]):=putL_below HB.out [_] 1 (Below.trans X2.out (Below.mono XE HBW2.out))
 exact hR.out _ _ (GivB.mk hbel ⟨rfl,[(1,0,0),(2,0,0)],rfl,hGL,some ⟨g8,0,none⟩,2,w2.heap.size,(HC2.out.ext XE).setAt (HRT2.out.ext XE) 1 dC _,(HRT2.out.ext XE).setAt 1 _,(L2.out.ext NdT.ext XE).putT (HRT2.out.ext XE) dC 1 [_] (fun _ _ h=>h),HM.out.block (putL_block b hmb [.map (some w2.heap.size)] wn 1),by have:=HB.out;omega,HB.out⟩)
theorem tnew_any {at':Int} {w:World}:
  Calls Tryz.prog 109 #[] w (Gives w fun v' w'=>∃ b,v'=.pointer (some ⟨b,0,none⟩)∧w.heap.size≤b∧Tb w.heap.size b at' 2 w'):=by
 refine via fun R hR=>?_
 obtain ⟨w1,hw1,b1,c1,-,-⟩:=bx1 w [.slice none 0 0,.map none] 259
 have HW:=qH hw1
 have R1:Hid (Rt w1 w.heap.size 2 259):=by show Rt _ _ _ _;rw [hw1];exact Rt.new w [_,_] _
 have HK:=qH (twake0_any (B:=w.heap.size) (at':=at') c1 R1.out (Nat.le_refl _))
 clear hw1 c1 R1
 go_enter Tryz.func109,Tryz.ntmps109
 go_upto_region 2 with (fail)
 rw [← HW.out]
 clear HW
 go_wp2_with fail
 refine HK.out.mono ?_
 rintro e w2 ⟨_,rfl,b2,rfl,h2⟩
 go_wp2_with fail
 exact hR.out _ _ (Gives.mk (Below.trans b1 b2) ⟨_,rfl,Nat.le_refl _,h2⟩)
theorem place_any (b:Nat) (at':Int) (w0:World) (hat:at'≤1000000):∀ (dp:Nat) {w:World} {v:Value} {f:Fm} {n:Nat},RdFs (fun g=>g < w0.heap.size) dp w v f→frmF f at'=true→Ext w0 w→Tb w0.heap.size b at' n w→
  Calls Tryz.prog 110 #[.pointer (some ⟨b,0,none⟩),v] w (GivB w0.heap.size w fun v' w'=>∃ (i:Int) (n':Nat),v'=.int .i64 i∧n≤n'∧0≤i∧i < n'∧Tb w0.heap.size b at' n' w')
 | 0,_,_,_,_,h,_,_,_=>h.elim
 | dp+1,w,v,f,n,hv,hfr,hx,ht=>by
  refine via fun R hR=>?_
  obtain ⟨x,c,rfl,hr⟩:=hv.op
  have HV:Hid (∀ wr,Below w0.heap.size w wr→RdRow 3 (RdFs (fun g=>g < w0.heap.size) dp) wr (.slice x f.sub.length c) f.sub):=fun wr hX=>RdFs.row (RdFs.keep (fun g (hg:g < w0.heap.size) _=>hX.block g hg) hv)
  have hlc:Hid (f.sub.length≤maxLen):=by obtain ⟨_,_,he,h1,h2⟩:=hr.shape;exact qH (by simp only [Value.slice.injEq] at he;omega)
  have HFR:=qH hfr
  have HE:=qH (frmF_eq (f:=f) (n:=at'))
  have HX0:=qH hx
  have HBD:=qH ht.bd
  have HIH:Hid (∀ {w:World} {v:Value} {f:Fm} {n:Nat},RdFs (fun g=>g < w0.heap.size) dp w v f→frmF f at'=true→Ext w0 w→Tb w0.heap.size b at' n w→
   Calls Tryz.prog 110 #[.pointer (some ⟨b,0,none⟩),v] w (GivB w0.heap.size w fun v' w'=>∃ (i:Int) (n':Nat),v'=.int .i64 i∧n≤n'∧0≤i∧i < n'∧Tb w0.heap.size b at' n' w')):=@place_any b at' w0 hat dp
  obtain ⟨w1,hw1,b1,c1,-,-⟩:=bx1 w [.int .i64 f.k,.int .i64 f.a,.slice x f.sub.length c] 29
  have HW:=qH hw1
  have C1:=qH c1
  have HBW:Hid (w0.heap.size≤w.heap.size):=by have:=HBD.out;exact qH oM
  have B1:Hid (Below w0.heap.size w w1):=Below.mono b1 HBW.out
  have HT1:=qH (ht.ext b1)
  obtain ⟨j0,j1,j2⟩:=c1.c3
  clear hw1 c1 hv hr hfr ht hx
  go_enter Tryz.func110,Tryz.ntmps110
  go_upto_region 2 with (fail)
  rw [← HW.out]
  clear HW
  by_cases k1:f.k=1
  ·obtain ⟨ha0,ha1⟩:=frmF_one HFR.out k1
   have HDO:=qH (tdo_any HT1.out (k:=3) (x:=f.a) (y:=0) (GdN.of dC dC ha0 dC oM dC (fun _=>ha1) fun h=>absurd rfl h) dC)
   rw [k1] at j0
   clear HFR HE HV hlc
   generalize f.k=fk at*
   generalize f.a=fa at*
   generalize f.sub=l at*
   subst k1
   clear ha0 ha1
   go_wp2_with fail
   refine HDO.out.mono ?_
   rintro e w5 ⟨_,rfl,b5,r,ok,n',rfl,h1,h2,h3,h4⟩
   go_wp2_with fail
   exact hR.out _ _ (GivB.mk (Below.trans B1.out b5) ⟨r,n',rfl,h1,h2,h3,h4⟩)
  have HFS:=qH (frmF_sub HFR.out k1)
  rw [if_neg k1,HFR.out] at HE
  clear HFR
  have d1:(f.k == 1)=false:=beq_eq_false_iff_ne.2 k1
  generalize f.k=fk at*
  generalize f.a=fa at*
  generalize f.sub=l at*
  clear k1
  by_cases k2:fk=2
  ·subst k2
   clear d1
   have HL1:Hid (l.length=1):=by
    have h:=HE.out
    rw [if_neg dC,if_pos rfl] at h
    have h:=h.symm
    simp only [Bool.and_eq_true,decide_eq_true_eq] at h
    exact qH h.1
   have hl0:0 < l.length:=by have:=HL1.out;omega
   have HJ2:(0:Int)≤0∧(0:Int) < (l.length:Int):=⟨by omega,by omega⟩
   obtain ⟨bL,oL,y,mm,hae,hbo,hE⟩:=(HV.out _ B1.out).partS 0 hl0
   subst hae
   have HGF:=qH (frmL_mem HFS.out (List.getElem_mem hl0))
   obtain ⟨g,hg⟩:∃ g,l[0]=g:=⟨_,rfl⟩
   rw [hg] at hbo hE HGF
   rw [Nat.zero_mul,Nat.add_zero] at hbo
   clear hg hl0
   obtain ⟨u0,u1,u2⟩:=hbo.c3
   have HPL:=qH (HIH.out hE HGF.out (Below.trans HX0.out B1.out) HT1.out)
   clear hbo hE HE
   generalize g.k=gk at*
   generalize g.a=ga at*
   generalize g.sub.length=gn at*
   go_wp2_with fail
   refine HPL.out.mono ?_
   rintro e w5 ⟨_,rfl,b5,r,n2,rfl,h1,h2,h3,h4⟩
   have HDO:=qH (tdo_any h4 (k:=4) (x:=r) (y:=0) (GdN.of dC dC h2 dC (by have:=h4.bd;omega) dC (fun h=>by cases h) fun _=>⟨h3,by have:=h4.bd;omega⟩) dC)
   have HN2:Hid (n≤n2):=h1
   clear h1 h2 h3 h4
   go_wp2_with fail
   refine HDO.out.mono ?_
   rintro e w6 ⟨_,rfl,b6,r2,ok,n3,rfl,h1,h2,h3,h4⟩
   go_wp2_with fail
   exact hR.out _ _ (GivB.mk (Below.trans B1.out (Below.trans b5 b6)) ⟨r2,n3,rfl,by have:=HN2.out;omega,h2,h3,h4⟩)
  have d2:(fk == 2)=false:=beq_eq_false_iff_ne.2 k2
  clear k2 HE
  by_cases k6:fk=6
  ·subst k6
   clear d1 d2
   go_wp2_with fail
   exact hR.out _ _ (GivB.mk B1.out ⟨0,n,rfl,Nat.le_refl _,by decide,by have:=HBD.out;omega,HT1.out⟩)
  have d6:(fk == 6)=false:=beq_eq_false_iff_ne.2 k6
  clear k6
  by_cases k4:fk=4
  ·subst k4
   clear d1 d2 d6
   go_wp2_with fail
   go_loopw [6,44] (fun q t wr=>∃ (j:Nat) (i:Int) (n':Nat),t=.int .i64 j∧q=.int .i64 i∧j≤l.length∧Hid (Below w0.heap.size w wr)∧Hid (0≤i∧i < n'∧n≤n')∧Hid (Tb w0.heap.size b at' n' wr)) (fun _ t _=>l.length - (intOf t).toNat)
   case atStart=>exact ⟨0,0,n,rfl,rfl,Nat.zero_le _,B1,⟨by decide,by have:=HBD.out;omega,Nat.le_refl _⟩,HT1⟩
   case round=>
    clear HT1 B1 j0 j1 j2
    obtain ⟨j,i,n1,rfl,rfl,hj,hX,hI,hT⟩:=hrel
    obtain ⟨wo,hwo⟩:∃ w0:World,w0=wr:=⟨_,rfl⟩
    subst hwo
    by_cases hjl:j < l.length
    ·have hd:=dT ((j:Int) < (l.length:Int))
     have HJ2:(0:Int)≤(j:Int)∧(j:Int) < (l.length:Int):=⟨by omega,by omega⟩
     have HJ1:IntKind.i64.wrap ((j:Int)+1)=((j+1:Nat):Int):=by have:=hlc.out;unfold maxLen at this;rw [IntKind.wrap_i64];omega
     obtain ⟨bL,oL,y,mm,hae,hbo,hE⟩:=(HV.out _ hX.out).partS j hjl
     subst hae
     have HGF:=qH (frmL_mem HFS.out (List.getElem_mem hjl))
     obtain ⟨g,hg⟩:∃ g,l[j]=g:=⟨_,rfl⟩
     rw [hg] at hbo hE HGF
     clear hg
     obtain ⟨u0,u1,u2⟩:=hbo.c3
     obtain ⟨w4,hw4,b4,c4,-,-⟩:=bx1 wo [.int .i64 g.k,.int .i64 g.a,.slice y g.sub.length mm] 29
     have HW:=qH hw4
     have C4:=qH c4
     have hBo:w0.heap.size≤wo.heap.size:=by have:=hT.out.bd;omega
     have HX4:=qH (Below.trans hX.out (Below.mono b4 hBo))
     have HPL:=qH (HIH.out (hE.ext b4) HGF.out (Below.trans HX0.out HX4.out) (hT.out.ext b4))
     clear hw4 c4 hbo hE hBo
     generalize g.k=gk at*
     generalize g.a=ga at*
     generalize g.sub.length=gn at*
     go_upto_region 16 with (fail)
     rw [← HW.out]
     clear HW u0 u1 u2
     obtain ⟨u0,u1,u2⟩:=C4.out.c3
     go_wp2_with fail
     refine HPL.out.mono ?_
     rintro e w5 ⟨_,rfl,b5,r,n2,rfl,h1,h2,h3,h4⟩
     have HDO:=qH (tdo_any h4 (k:=6) (x:=i) (y:=r) (GdN.of dC dC hI.out.1 h2 (by have:=h4.bd;have:=hI.out;omega) (by have:=h4.bd;omega) (fun h=>by cases h) fun _=>⟨by have:=hI.out;omega,h3⟩) dC)
     have HN2:Hid (n1≤n2):=h1
     clear h1 h2 h3 h4
     go_wp2_with fail
     refine HDO.out.mono ?_
     rintro e w6 ⟨_,rfl,b6,r2,ok,n3,rfl,h1,h2,h3,h4⟩
     go_wp2_with fail
     go_roundw
     case rel=>exact ⟨j+1,r2,n3,by go_num,rfl,by omega,Below.trans HX4.out (Below.trans b5 b6),⟨h2,h3,by have:=hI.out;have:=HN2.out;omega⟩,h4⟩
     simp [intOf]<;>omega
    obtain rfl:j=l.length:=by omega
    have hd:=dF ((l.length:Int) < (l.length:Int))
    go_wp2_with fail
    exact hR.out _ _ (GivB.mk hX.out ⟨i,n1,rfl,hI.out.2.2,hI.out.1,hI.out.2.1,hT.out⟩)
  have d4:(fk == 4)=false:=beq_eq_false_iff_ne.2 k4
  clear k4
  go_wp2_with fail
  go_loopw [6,44] (fun q t wr=>∃ (j:Nat) (i:Int) (n':Nat),t=.int .i64 j∧q=.int .i64 i∧j≤l.length∧Hid (Below w0.heap.size w wr)∧Hid (0≤i∧i < n'∧n≤n')∧Hid (Tb w0.heap.size b at' n' wr)) (fun _ t _=>l.length - (intOf t).toNat)
  case atStart=>exact ⟨0,1,n,rfl,rfl,Nat.zero_le _,B1,⟨by decide,by have:=HBD.out;omega,Nat.le_refl _⟩,HT1⟩
  case round=>
   clear HT1 B1 j0 j1 j2
   obtain ⟨j,i,n1,rfl,rfl,hj,hX,hI,hT⟩:=hrel
   obtain ⟨wo,hwo⟩:∃ w0:World,w0=wr:=⟨_,rfl⟩
   subst hwo
   by_cases hjl:j < l.length
   ·have hd:=dT ((j:Int) < (l.length:Int))
    have HJ2:(0:Int)≤(j:Int)∧(j:Int) < (l.length:Int):=⟨by omega,by omega⟩
    have HJ1:IntKind.i64.wrap ((j:Int)+1)=((j+1:Nat):Int):=by have:=hlc.out;unfold maxLen at this;rw [IntKind.wrap_i64];omega
    obtain ⟨bL,oL,y,mm,hae,hbo,hE⟩:=(HV.out _ hX.out).partS j hjl
    subst hae
    have HGF:=qH (frmL_mem HFS.out (List.getElem_mem hjl))
    obtain ⟨g,hg⟩:∃ g,l[j]=g:=⟨_,rfl⟩
    rw [hg] at hbo hE HGF
    clear hg
    obtain ⟨u0,u1,u2⟩:=hbo.c3
    obtain ⟨w4,hw4,b4,c4,-,-⟩:=bx1 wo [.int .i64 g.k,.int .i64 g.a,.slice y g.sub.length mm] 29
    have HW:=qH hw4
    have C4:=qH c4
    have hBo:w0.heap.size≤wo.heap.size:=by have:=hT.out.bd;omega
    have HX4:=qH (Below.trans hX.out (Below.mono b4 hBo))
    have HPL:=qH (HIH.out (hE.ext b4) HGF.out (Below.trans HX0.out HX4.out) (hT.out.ext b4))
    clear hw4 c4 hbo hE hBo
    generalize g.k=gk at*
    generalize g.a=ga at*
    generalize g.sub.length=gn at*
    go_upto_region 16 with (fail)
    rw [← HW.out]
    clear HW u0 u1 u2
    obtain ⟨u0,u1,u2⟩:=C4.out.c3
    go_wp2_with fail
    refine HPL.out.mono ?_
    rintro e w5 ⟨_,rfl,b5,r,n2,rfl,h1,h2,h3,h4⟩
    have HDO:=qH (tdo_any h4 (k:=5) (x:=i) (y:=r) (GdN.of dC dC hI.out.1 h2 (by have:=h4.bd;have:=hI.out;omega) (by have:=h4.bd;omega) (fun h=>by cases h) fun _=>⟨by have:=hI.out;omega,h3⟩) dC)
    have HN2:Hid (n1≤n2):=h1
    clear h1 h2 h3 h4
    go_wp2_with fail
    refine HDO.out.mono ?_
    rintro e w6 ⟨_,rfl,b6,r2,ok,n3,rfl,h1,h2,h3,h4⟩
    go_wp2_with fail
    go_roundw
    case rel=>exact ⟨j+1,r2,n3,by go_num,rfl,by omega,Below.trans HX4.out (Below.trans b5 b6),⟨h2,h3,by have:=hI.out;have:=HN2.out;omega⟩,h4⟩
    simp [intOf]<;>omega
   obtain rfl:j=l.length:=by omega
   have hd:=dF ((l.length:Int) < (l.length:Int))
   go_wp2_with fail
   exact hR.out _ _ (GivB.mk hX.out ⟨i,n1,rfl,hI.out.2.2,hI.out.1,hI.out.2.1,hT.out⟩)
open Go.RowKit Go.Att

theorem intern_any {w:World} {v:Value} {f:Fm} {k:Int} (hv:RdFm w v f) (hk:chkF f k=0) (hk1:k≤1000000):
  Calls Tryz.prog 75 #[v,.int .i64 k] w (Gives w fun v' w'=>∃ (root:Int) (n:Nat) (a:Option Addr) (c:Nat) (L:List Nd),v'=.tuple #[.int .i64 root,.slice a n c,.int .i64 0]∧2≤n∧n≤20000∧0≤root∧root < n∧L.length=n∧(∀ x∈L,GdN k n x)∧OwnRow 3 NdT 193 w.heap.size w' (.slice a n c) L):=by
 refine via fun R hR=>?_
 have hfr:frmF f k=true:=by
  unfold chkF at hk
  split at hk
  ·cases hk
  split at hk
  ·assumption
  cases hk
 have HFR:=qH hfr
 have HK1:=qH hk1
 obtain ⟨dp,hdp⟩:=hv
 have hv:RdFm w v f:=⟨dp,hdp⟩
 obtain ⟨x,c,_,rfl,-⟩:=hv.op
 obtain ⟨w1,hw1,b1,c1,-,-⟩:=bx1 w [.int .i64 f.k,.int .i64 f.a,.slice x f.sub.length c] 29
 have HW:=qH hw1
 have C1:=qH c1
 have HDP:=qH (RdFn.ext hdp b1)
 have HC:=qH (checkF_any (k:=k) (hv.ext b1))
 rw [hk] at HC
 obtain ⟨j0,j1,j2⟩:=c1.c3
 clear hw1 c1 hv hdp hk hfr hk1
 go_enter Tryz.func75,Tryz.ntmps75
 go_upto_region 1 with (fail)
 rw [← HW.out]
 clear HW
 go_wp2_with fail
 refine HC.out.mono ?_
 rintro e w2 ⟨_,rfl,b2,rfl⟩
 have HNEW:=qH (tnew_any (at':=k) (w:=w2))
 go_wp2_with fail
 refine HNEW.out.mono ?_
 rintro e w3 ⟨_,rfl,b3,b,rfl,hb,ht3⟩
 clear j0 j1 j2
 have HD2:=qH (RdFn.old (HDP.out.ext b2))
 obtain ⟨j0,j1,j2⟩:=(C1.out.ext (eT b2 b3)).c3
 have HPL:=qH (place_any b k w2 HK1.out dp (HD2.out.ext b3) HFR.out b3 ht3)
 go_wp2_with fail
 refine HPL.out.mono ?_
 rintro e w4 ⟨_,rfl,b4,root,n,rfl,h1,h2,h3,ht4⟩
 have HT4:=qH ht4
 have HRT:Hid (0≤root∧root < n):=⟨h2,h3⟩
 have HBD:=qH ht4.bd
 have HX4:Hid (Ext w w4):=eT b1 (eT b2 (Below.trans b3 b4))
 have HLEN:=qH (tlen_any ht4)
 clear h1 h2 h3 ht4 ht3 HNEW HPL HD2 HDP HC C1 j0 j1 j2
 go_wp2_with fail
 refine HLEN.out.mono ?_
 rintro e w5 ⟨_,rfl,b5,rfl⟩
 have HX5:=qH (eT HX4.out b5)
 have HT5:=qH (HT4.out.ext b5)
 clear HLEN HT4 HX4
 go_wp2_with fail
 go_loopw [10,26] (fun q t wr=>∃ (j:Nat) (a:Option Addr) (c:Nat) (L:List Nd),t=.int .i64 j∧q=.slice a j c∧j≤n∧Hid (Ext w5 wr)∧Hid (OwnRow 3 NdT 193 w5.heap.size wr (.slice a j c) L)∧Hid (L.length=j∧∀ x∈L,GdN k n x)) (fun _ t _=>n - (intOf t).toNat)
 case atStart=>exact ⟨0,none,0,[],rfl,rfl,Nat.zero_le _,Ext.refl _,OwnRow.nil _ _ _,rfl,fun x hx=>by cases hx⟩
 case round=>
  obtain ⟨j,a,c,L,rfl,rfl,hj,hX,hO,hL⟩:=hrel
  obtain ⟨wo,hwo⟩:∃ w0:World,w0=wr:=⟨_,rfl⟩
  subst hwo
  by_cases hjl:j < n
  ·have hd:=dT ((j:Int) < (n:Int))
   have HJ1:IntKind.i64.wrap ((j:Int)+1)=((j+1:Nat):Int):=by have:=HBD.out;rw [IntKind.wrap_i64];omega
   have HND:=qH (tnode_any (HT5.out.ext hX.out) (i:=j) oM oM)
   go_wp2_with fail
   refine HND.out.mono ?_
   rintro e w6 ⟨_,rfl,b6,y0,y1,y2,rfl,hg⟩
   have HG:=qH hg
   obtain ⟨w7,hw7,b7,c7,-,-⟩:=bx1 w6 [.int .i64 y0,.int .i64 y1,.int .i64 y2] 193
   have HW:=qH hw7
   have hX7:=eT b6 b7
   have HX7:=qH (eT hX.out hX7)
   have HO7:=qH (hO.out.ext NdT.ext hX7)
   obtain ⟨u0,u1,u2⟩:=c7.c3
   have HJB:Hid (j < 20000):=by have:=HBD.out;exact qH oM
   obtain ⟨L2,hL2⟩:∃ L2,L ++ [(y0,y1,y2)]=L2:=⟨_,rfl⟩
   have HL2:Hid (L2.length=j+1∧∀ x∈L2,GdN k n x):=by
    rw [← hL2]
    refine qH ⟨by rw [List.length_append,hL.out.1];rfl,fun x hx=>?_⟩
    rcases List.mem_append.1 hx with hx | hx
    ·exact hL.out.2 x hx
    rw [List.mem_singleton.1 hx];exact HG.out
   have HLE:=qH hL2
   clear hw7 c7 hg hL2
   go_upto_region 11 with (fail)
   rw [← HW.out]
   clear HW hd
   go_wp2_with (refine build1W etNd rF rF (T:=NdT) NdT.ext rF [.int .i64 y0,.int .i64 y1,.int .i64 y2] (fill_n1 ..) rfl dC (y:=(y0,y1,y2)) rfl ?_;intro g8 w8 x8 _ l8;refine append_rowGL etNd (kdNd _) rF _ _ rF w5.heap.size rF (HO7.out.ext NdT.ext x8) rF l8.rd (by rw [hL.out.1];have:=HJB.out;omega) (by rw [hL.out.1];unfold maxLen;have:=HJB.out;omega) (Below.size (eT HX7.out x8)) ?_;intro v9 w9 o9 b9 g9 _;have O9:Hid (OwnRow 3 NdT 193 w5.heap.size w9 v9 L2):=(by rw [← HLE.out];exact o9);have XW:=qH (Below.trans (eT HX7.out x8) b9);obtain ⟨a11,k11,he9,-,-⟩:=O9.out.rd.shape;rw [HL2.out.1] at he9;subst he9)
   go_roundw
   case rel=>exact ⟨j+1,a11,k11,L2,by go_num,rfl,by omega,XW.out,O9.out,HL2.out⟩
   simp [intOf]<;>omega
  obtain rfl:j=n:=by omega
  have hd:=dF ((j:Int) < (j:Int))
  go_wp2_with fail
  refine bodyPost_ret (v:=.tuple #[.int .i64 root,.slice a j c,.int .i64 0]) (by simp [results,Tryz.results75,go_sem]) rfl ?_
  exact hR.out _ _ (Gives.mk (eT HX5.out hX.out) ⟨root,j,a,c,L,rfl,HBD.out.1,HBD.out.2.1,HRT.out.1,HRT.out.2,hL.out.1,hL.out.2,hO.out.mono (Below.size HX5.out)⟩)
end Go.Proofs.YtmlhccajicmpfaaGreat

namespace Go.Att
open Go.RowKit

theorem Pw.ones {α:Type} {k:Nat} {R:List Value→α→Prop} (hR:∀ c a,R c a→∀ u∈c,u.oneCell'=true):∀ {E:List (List Value)} {l:List α},Pw k R E l→∀ u∈E.flatten,u.oneCell'=true
 | [],[],_,u,hu=>by simp at hu
 | c :: _,_ :: _,h,u,hu=>by
  rw [List.flatten_cons] at hu
  rcases List.mem_append.1 hu with hu | hu
  ·exact hR _ _ h.1.2 u hu
  exact Pw.ones hR h.2 u hu
 | [],_ :: _,h,_,_=>h.elim
 | _ :: _,[],h,_,_=>h.elim
theorem append_rowA {α:Type} {P:Program} {w:World} {o:Oper} {a:Act} {K:Act→World→Prop} {Q:Exit→Act→World→Prop} {t e:TypeId} {z:Value} {size bytes:Nat} (ET:ElemT P t e z size bytes) {T:World→Value→α→Prop} (hT:Kd e T)
  (s x:Operand) (ho:o.op=.call { callee:=.builtin .append,args:=#[s,x],argTypes:=#[t,t] }) (B:Nat) {v:Value} {l m:List α} (hs:a.eval s=v)
  (hown:OwnRow size T e B w v l) {v2:Value} (hx:a.eval x=v2) (hr:RdRow size T w v2 m) (hl:(l.length+m.length)*bytes≤140737488355328) (hm:l.length+m.length≤maxLen) (hB:B≤w.heap.size)
  (h:∀ v' w',OwnRow size T e B w' v' (l ++ m)→Below B w w'→w.grownBy w' v.ownBlock→K (a.put o.dst v') w'):o.wp P a w K Q:=by
 obtain ⟨E,hE,hP⟩:=hown
 obtain ⟨F,hF,hPF⟩:=hr
 refine append_rdK ET s x ho B hs hE hx hF (hPF.ones fun c a h=>hT.one h) hl hm hB ?_
 intro v' w' o' b' g'
 refine h v' w' ⟨E ++ F,?_,(hP.mono fun _ _ h=>hT.grown h hE g').app (hPF.mono fun _ _ h=>hT.grown h hE g')⟩ b' g'
 rw [List.length_append,List.flatten_append]
 exact o'
theorem append_rowAL {α:Type} {P:Program} {w:World} {ops:Array Oper} {rest:List Oper} {o:Oper} {a:Act} {Q:Exit→Act→World→Prop} {t e:TypeId} {z:Value} {size bytes:Nat} (ET:ElemT P t e z size bytes) {T:World→Value→α→Prop} (hT:Kd e T)
  (hgd:Region.wanted o (yielded ops a.tmps)=true) (s x:Operand) (ho:o.op=.call { callee:=.builtin .append,args:=#[s,x],argTypes:=#[t,t] }) (B:Nat) {v:Value} {l m:List α} (hs:a.eval s=v)
  (hown:OwnRow size T e B w v l) {v2:Value} (hx:a.eval x=v2) (hr:RdRow size T w v2 m) (hl:(l.length+m.length)*bytes≤140737488355328) (hm:l.length+m.length≤maxLen) (hB:B≤w.heap.size)
  (h:∀ v' w',OwnRow size T e B w' v' (l ++ m)→Below B w w'→w.grownBy w' v.ownBlock→wpList P ops Q rest (a.put o.dst v') w'):wpList P ops Q (o :: rest) a w:=
 wpList_want hgd fun _ hK=>append_rowA ET hT s x ho B hs hown hx hr hl hm hB fun v' w' a1 a2 a3=>hK _ _ (h v' w' a1 a2 a3)
end Go.Att
