/- span.Scale -/
import Derived.Test.YtmlhccajicmpfaaGreatSq
import Derived.Test.YtmlhccajicmpfaaGreatPartAC
import Derived.Test.YtmlhccajicmpfaaGreatPartBD
import Derived.Test.YtmlhccajicmpfaaGreatPartAJ
set_option maxHeartbeats 40000000
set_option maxRecDepth 100000
set_option linter.unusedSimpArgs false
namespace Go.Proofs.YtmlhccajicmpfaaGreat
open Go.RowKit Go.Att

def mn (x y:Rat):Rat:=if (x - y).num.sign≤0 then x else y
def mx (x y:Rat):Rat:=if 0≤(x - y).num.sign then x else y
theorem sscale_any {w:World} {va vb:Value} {r a b:Rat} (hp:RdQ w va r) (hq:RdD w vb a b) (sr:Sz 1000000 r) (sa:Sz 1000000 a) (sb:Sz 1000000 b):
  Calls Tryz.prog 63 #[va,vb] w (Gives w fun v' w'=>OwnD 156 w.heap.size w' v' (mn (r*a) (r*b)) (mx (r*a) (r*b))):=by
 refine via fun R hR=>?_
 have SX:Hid (Sz 10000000 (r*a)):=(sr.mul sa).le dC
 have SY:Hid (Sz 10000000 (r*b)):=(sr.mul sb).le dC
 have SA:=qH (sa.le (show 1000000≤10000000 by decide))
 have SB:=qH (sb.le (show 1000000≤10000000 by decide))
 have SR:=qH (sr.le (show 1000000≤10000000 by decide))
 generalize hx:r*a=x at*
 generalize hy:r*b=y at*
 have HX:=qH hx
 have HY:=qH hy
 have HA:=qH hp
 obtain ⟨x1,x2,rfl,-,-⟩:=hp
 obtain ⟨y0,y1,y2,y3,y4,y5,rfl,h3,h4⟩:=hq
 have HC:=qH h3
 have HD:=qH h4
 obtain ⟨w1,hw1,b1,c1,c2,-,-,-,r3,-⟩:=bx3 w [.bool (decide (r.num < 0)),x1,x2] [y0,y1,y2,y3,y4,y5] [.bool false,.slice none 0 0,.slice none 0 0,.bool false,.slice none 0 0,.slice none 0 0] 38 41 41
 have C1:=qH c1
 have C2:=qH c2
 have RR:Hid (Rm w1 (w.heap.size+1+1) 6):=r3
 have SZ:=qH RR.out.lt
 have HW:=qH hw1
 clear h3 h4 sr sa sb c1 c2 r3 hw1 hx hy
 go_enter Tryz.func63,Tryz.ntmps63
 go_upto_region 1 with (fail)
 rw [← HW.out]
 clear HW
 go_cut [5,6] (fun s5 s6 wx=>∃ (B C:Nat) (n d n' d':Value),s5=.pointer (some ⟨B,0,none⟩)∧s6=.pointer (some ⟨C,0,none⟩)∧Hid (w.heap.size+1+1≠B)∧Hid (w.heap.size+1+1≠C)∧Hid (TwoQ 156 w1 wx B C n d n' d' x y))
 case first=>
  refine wp_region_noPanic ?_
  refine region_cap fun O Q9 hO hQ=>?_
  obtain ⟨SS,hSS⟩:∃ SS:World→Prop,Hid (SS=fun w'=>(w'.cell? ⟨w.heap.size,0,none⟩=some (.bool (decide (r.num < 0)))∧w'.cell? ⟨w.heap.size,1,none⟩=some (x1)∧w'.cell? ⟨w.heap.size,2,none⟩=some (x2))∧(w'.cell? ⟨w.heap.size+1,0,none⟩=some (y0)∧w'.cell? ⟨w.heap.size+1,1,none⟩=some (y1)∧w'.cell? ⟨w.heap.size+1,2,none⟩=some (y2)∧w'.cell? ⟨w.heap.size+1,3,none⟩=some (y3)∧w'.cell? ⟨w.heap.size+1,4,none⟩=some (y4)∧w'.cell? ⟨w.heap.size+1,5,none⟩=some (y5))):=⟨_,rfl⟩
  have KP:Hid (∀ wv,Ext w1 wv→SS wv):=fun wv XE=>by rw [hSS.out];exact ⟨(C1.out.ext XE).c3,(C2.out.ext XE).c6⟩
  have L2_8_9:∀ (wv:World) (v3 v7:Value) (B8 B9:Nat),Hid (Ext w1 wv)→Hid (OwnQ 156 w1.heap.size wv v3 x)→Hid (OwnQ 156 w1.heap.size wv v7 y)→Hid (Rt wv B8 3 38)→Hid (w1.heap.size≤B8)→Hid (Rt wv B9 3 38)→Hid (w1.heap.size≤B9)→Hid (B8≠B9)→wpAnyH Tryz.prog .any O Q9 SS 2 #[true,true,true,true,true,true,true,true,true,true,false,false] ⟨#[.agg #[.bool (decide (r.num < 0)),x1,x2],.agg #[y0,y1,y2,y3,y4,y5],.pointer (some ⟨w.heap.size,0,none⟩),.pointer (some ⟨w.heap.size+1,0,none⟩),.pointer (some ⟨w.heap.size+1+1,0,none⟩),.pointer (some ⟨B8,0,none⟩),.pointer (some ⟨B9,0,none⟩),.agg #[.bool (decide (r.num < 0)),x1,x2],.pointer (some ⟨w.heap.size+1,0,none⟩),.agg #[y0,y1,y2],v3,.agg #[.bool (decide (r.num < 0)),x1,x2],.pointer (some ⟨w.heap.size+1,3,none⟩),.agg #[y3,y4,y5],v7,undef,undef,undef,undef,undef,undef,undef],[]⟩ wv:=by
   intro wv v3 v7 B8 B9 hX p3 p7 r8 s8 r9 s9 ne8_9
   have hO1:=hO.out
   have hQ1:=hQ.out
   subst hO1
   subst hQ1
   have XE:=hX.out
   have hHeld:=KP.out _ XE
   have hS1:=hSS.out
   subst hS1
   obtain ⟨n3,d3,rfl,on3,od3⟩:=p3.out
   obtain ⟨n7,d7,rfl,on7,od7⟩:=p7.out
   obtain ⟨a3,c3,rfl,-,-,-,-⟩:=on3.rd.1.shape
   obtain ⟨a3',c3',rfl,-,-,-,-⟩:=od3.rd.1.shape
   obtain ⟨a7,c7,rfl,-,-,-,-⟩:=on7.rd.1.shape
   obtain ⟨a7',c7',rfl,-,-,-,-⟩:=od7.rd.1.shape
   obtain ⟨_,_,_,i0,i1,i2,f0,f1,f2⟩:=r8.out.rm.room3.cells
   obtain ⟨_,_,_,j0,j1,j2,g0,g1,g2⟩:=r9.out.rm.room3.cells
   have hne:=ne8_9.out
   have hne':=Ne.symm hne
   refine rdH 10 kR rfl (fun K hK=>?_)
   go_simp
   refine hK.out _ _ (⟨((C1.out.ext XE).put3 (by have:=s8.out;have:=SZ.out;omega) _ _ _).c3,((C2.out.ext XE).put3 (by have:=s8.out;have:=SZ.out;omega) _ _ _).c6⟩) (fun hHeld=>?_)
   clear hK K
   try simp only [jP,jJ]
   refine rdH 11 kR rfl (fun K hK=>?_)
   go_simp
   refine hK.out _ _ (⟨(((C1.out.ext XE).put3 (by have:=s8.out;have:=SZ.out;omega) _ _ _).put3 (by have:=s9.out;have:=SZ.out;omega) _ _ _).c3,(((C2.out.ext XE).put3 (by have:=s8.out;have:=SZ.out;omega) _ _ _).put3 (by have:=s9.out;have:=SZ.out;omega) _ _ _).c6⟩) (fun hHeld=>?_)
   clear hK K
   try simp only [jP,jJ]
   refine dnH kR ?_
   go_wp2_with fail
   go_meet
   exact ⟨_,_,_,_,_,_,rfl,rfl,(by show _≠_;have:=s8.out;have:=SZ.out;omega),(by show _≠_;have:=s9.out;have:=SZ.out;omega),TwoQ.mk dC hX.out r8.out r9.out s8.out s9.out ne8_9.out ⟨_,_,rfl,on3,od3⟩ ⟨_,_,rfl,on7,od7⟩⟩
  have L1_8_9:∀ (wv:World) (v3:Value) (B8 B9:Nat),Hid (Ext w1 wv)→Hid (OwnQ 156 w1.heap.size wv v3 x)→Hid (Rt wv B8 3 38)→Hid (w1.heap.size≤B8)→Hid (Rt wv B9 3 38)→Hid (w1.heap.size≤B9)→Hid (B8≠B9)→wpAnyH Tryz.prog .any O Q9 SS 3 #[true,true,true,true,true,true,true,false,true,true,false,false] ⟨#[.agg #[.bool (decide (r.num < 0)),x1,x2],.agg #[y0,y1,y2,y3,y4,y5],.pointer (some ⟨w.heap.size,0,none⟩),.pointer (some ⟨w.heap.size+1,0,none⟩),.pointer (some ⟨w.heap.size+1+1,0,none⟩),.pointer (some ⟨B8,0,none⟩),.pointer (some ⟨B9,0,none⟩),.agg #[.bool (decide (r.num < 0)),x1,x2],.pointer (some ⟨w.heap.size+1,0,none⟩),.agg #[y0,y1,y2],v3,.agg #[.bool (decide (r.num < 0)),x1,x2],.pointer (some ⟨w.heap.size+1,3,none⟩),.agg #[y3,y4,y5],undef,undef,undef,undef,undef,undef,undef,undef],[]⟩ wv:=by
   intro wv v3 B8 B9 hX p3 r8 s8 r9 s9 ne8_9
   have hO1:=hO.out
   have hQ1:=hQ.out
   subst hO1
   subst hQ1
   have XE:=hX.out
   refine rdH 7 kR rfl (fun K hK=>?_)
   ·skip
    go_simp
    go_at_call 66
    refine (HY.out ▸ rmul_any (HA.out.ext (eT b1 XE)) (HD.out.ext (eT b1 XE)) SR.out SB.out).mono ?_
    rintro e wn ⟨vn,rfl,bn,on⟩
    go_wp2_with fail
    refine hK.out _ _ (KP.out _ (eT XE bn)) (fun _=>?_)
    clear hK K
    try simp only [jP,jJ]
    exact wpAnyH_to (L2_8_9 wn v3 vn B8 B9 (eT XE bn) (p3.out.ext bn) (on.mono (Below.size XE)) (r8.out.ext bn) s8 (r9.out.ext bn) s9 ne8_9) kR kR rfl rfl
  have L2_8:∀ (wv:World) (v3 v7:Value) (B8:Nat),Hid (Ext w1 wv)→Hid (OwnQ 156 w1.heap.size wv v3 x)→Hid (OwnQ 156 w1.heap.size wv v7 y)→Hid (Rt wv B8 3 38)→Hid (w1.heap.size≤B8)→wpAnyH Tryz.prog .any O Q9 SS 3 #[true,true,true,true,true,true,true,true,true,false,false,false] ⟨#[.agg #[.bool (decide (r.num < 0)),x1,x2],.agg #[y0,y1,y2,y3,y4,y5],.pointer (some ⟨w.heap.size,0,none⟩),.pointer (some ⟨w.heap.size+1,0,none⟩),.pointer (some ⟨w.heap.size+1+1,0,none⟩),.pointer (some ⟨B8,0,none⟩),undef,.agg #[.bool (decide (r.num < 0)),x1,x2],.pointer (some ⟨w.heap.size+1,0,none⟩),.agg #[y0,y1,y2],v3,.agg #[.bool (decide (r.num < 0)),x1,x2],.pointer (some ⟨w.heap.size+1,3,none⟩),.agg #[y3,y4,y5],v7,undef,undef,undef,undef,undef,undef,undef],[]⟩ wv:=by
   intro wv v3 v7 B8 hX p3 p7 r8 s8
   have hO1:=hO.out
   have hQ1:=hQ.out
   subst hO1
   subst hQ1
   have XE:=hX.out
   refine rdH 9 kR rfl (fun K hK=>?_)
   ·skip
    go_simp
    refine hK.out _ _ (KP.out _ (eT XE (Ext.alloc wv (.cells [.bool false,.slice none 0 0,.slice none 0 0].toArray 38)))) (fun _=>?_)
    clear hK K
    try simp only [jP,jJ]
    exact wpAnyH_to (L2_8_9 _ v3 v7 B8 wv.heap.size (eT XE (Ext.alloc wv (.cells [.bool false,.slice none 0 0,.slice none 0 0].toArray 38))) (p3.out.ext (Ext.alloc wv (.cells [.bool false,.slice none 0 0,.slice none 0 0].toArray 38))) (p7.out.ext (Ext.alloc wv (.cells [.bool false,.slice none 0 0,.slice none 0 0].toArray 38))) (r8.out.ext (Ext.alloc wv (.cells [.bool false,.slice none 0 0,.slice none 0 0].toArray 38))) s8 (Rt.new wv [.bool false,.slice none 0 0,.slice none 0 0] 38) (Below.size XE) (Nat.ne_of_lt r8.out.lt)) kR kR rfl rfl
  have L2_9:∀ (wv:World) (v3 v7:Value) (B9:Nat),Hid (Ext w1 wv)→Hid (OwnQ 156 w1.heap.size wv v3 x)→Hid (OwnQ 156 w1.heap.size wv v7 y)→Hid (Rt wv B9 3 38)→Hid (w1.heap.size≤B9)→wpAnyH Tryz.prog .any O Q9 SS 3 #[true,true,true,true,true,true,true,true,false,true,false,false] ⟨#[.agg #[.bool (decide (r.num < 0)),x1,x2],.agg #[y0,y1,y2,y3,y4,y5],.pointer (some ⟨w.heap.size,0,none⟩),.pointer (some ⟨w.heap.size+1,0,none⟩),.pointer (some ⟨w.heap.size+1+1,0,none⟩),undef,.pointer (some ⟨B9,0,none⟩),.agg #[.bool (decide (r.num < 0)),x1,x2],.pointer (some ⟨w.heap.size+1,0,none⟩),.agg #[y0,y1,y2],v3,.agg #[.bool (decide (r.num < 0)),x1,x2],.pointer (some ⟨w.heap.size+1,3,none⟩),.agg #[y3,y4,y5],v7,undef,undef,undef,undef,undef,undef,undef],[]⟩ wv:=by
   intro wv v3 v7 B9 hX p3 p7 r9 s9
   have hO1:=hO.out
   have hQ1:=hQ.out
   subst hO1
   subst hQ1
   have XE:=hX.out
   refine rdH 8 kR rfl (fun K hK=>?_)
   ·skip
    go_simp
    refine hK.out _ _ (KP.out _ (eT XE (Ext.alloc wv (.cells [.bool false,.slice none 0 0,.slice none 0 0].toArray 38)))) (fun _=>?_)
    clear hK K
    try simp only [jP,jJ]
    exact wpAnyH_to (L2_8_9 _ v3 v7 wv.heap.size B9 (eT XE (Ext.alloc wv (.cells [.bool false,.slice none 0 0,.slice none 0 0].toArray 38))) (p3.out.ext (Ext.alloc wv (.cells [.bool false,.slice none 0 0,.slice none 0 0].toArray 38))) (p7.out.ext (Ext.alloc wv (.cells [.bool false,.slice none 0 0,.slice none 0 0].toArray 38))) (Rt.new wv [.bool false,.slice none 0 0,.slice none 0 0] 38) (Below.size XE) (r9.out.ext (Ext.alloc wv (.cells [.bool false,.slice none 0 0,.slice none 0 0].toArray 38))) s9 (Nat.ne_of_gt r9.out.lt)) kR kR rfl rfl
  have L0_8_9:∀ (wv:World) (B8 B9:Nat),Hid (Ext w1 wv)→Hid (Rt wv B8 3 38)→Hid (w1.heap.size≤B8)→Hid (Rt wv B9 3 38)→Hid (w1.heap.size≤B9)→Hid (B8≠B9)→wpAnyH Tryz.prog .any O Q9 SS 4 #[true,true,true,false,true,true,true,false,true,true,false,false] ⟨#[.agg #[.bool (decide (r.num < 0)),x1,x2],.agg #[y0,y1,y2,y3,y4,y5],.pointer (some ⟨w.heap.size,0,none⟩),.pointer (some ⟨w.heap.size+1,0,none⟩),.pointer (some ⟨w.heap.size+1+1,0,none⟩),.pointer (some ⟨B8,0,none⟩),.pointer (some ⟨B9,0,none⟩),.agg #[.bool (decide (r.num < 0)),x1,x2],.pointer (some ⟨w.heap.size+1,0,none⟩),.agg #[y0,y1,y2],undef,.agg #[.bool (decide (r.num < 0)),x1,x2],.pointer (some ⟨w.heap.size+1,3,none⟩),.agg #[y3,y4,y5],undef,undef,undef,undef,undef,undef,undef,undef],[]⟩ wv:=by
   intro wv B8 B9 hX r8 s8 r9 s9 ne8_9
   have hO1:=hO.out
   have hQ1:=hQ.out
   subst hO1
   subst hQ1
   have XE:=hX.out
   refine rdH 3 kR rfl (fun K hK=>?_)
   ·skip
    go_simp
    go_at_call 66
    refine (HX.out ▸ rmul_any (HA.out.ext (eT b1 XE)) (HC.out.ext (eT b1 XE)) SR.out SA.out).mono ?_
    rintro e wn ⟨vn,rfl,bn,on⟩
    go_wp2_with fail
    refine hK.out _ _ (KP.out _ (eT XE bn)) (fun _=>?_)
    clear hK K
    try simp only [jP,jJ]
    exact wpAnyH_to (L1_8_9 wn vn B8 B9 (eT XE bn) (on.mono (Below.size XE)) (r8.out.ext bn) s8 (r9.out.ext bn) s9 ne8_9) kR kR rfl rfl
  have L1_8:∀ (wv:World) (v3:Value) (B8:Nat),Hid (Ext w1 wv)→Hid (OwnQ 156 w1.heap.size wv v3 x)→Hid (Rt wv B8 3 38)→Hid (w1.heap.size≤B8)→wpAnyH Tryz.prog .any O Q9 SS 4 #[true,true,true,true,true,true,true,false,true,false,false,false] ⟨#[.agg #[.bool (decide (r.num < 0)),x1,x2],.agg #[y0,y1,y2,y3,y4,y5],.pointer (some ⟨w.heap.size,0,none⟩),.pointer (some ⟨w.heap.size+1,0,none⟩),.pointer (some ⟨w.heap.size+1+1,0,none⟩),.pointer (some ⟨B8,0,none⟩),undef,.agg #[.bool (decide (r.num < 0)),x1,x2],.pointer (some ⟨w.heap.size+1,0,none⟩),.agg #[y0,y1,y2],v3,.agg #[.bool (decide (r.num < 0)),x1,x2],.pointer (some ⟨w.heap.size+1,3,none⟩),.agg #[y3,y4,y5],undef,undef,undef,undef,undef,undef,undef,undef],[]⟩ wv:=by
   intro wv v3 B8 hX p3 r8 s8
   have hO1:=hO.out
   have hQ1:=hQ.out
   subst hO1
   subst hQ1
   have XE:=hX.out
   refine wpAnyH_ready (rs:=[7,9]) kR (by simp) ?_
   refine AllReadyH.cons (o:=_) rfl (fun K hK=>?_) (AllReadyH.cons (o:=_) rfl (fun K hK=>?_) AllReadyH.nil)
   ·skip
    go_simp
    go_at_call 66
    refine (HY.out ▸ rmul_any (HA.out.ext (eT b1 XE)) (HD.out.ext (eT b1 XE)) SR.out SB.out).mono ?_
    rintro e wn ⟨vn,rfl,bn,on⟩
    go_wp2_with fail
    refine hK.out _ _ (KP.out _ (eT XE bn)) (fun _=>?_)
    clear hK K
    try simp only [jP,jJ]
    exact wpAnyH_to (L2_8 wn v3 vn B8 (eT XE bn) (p3.out.ext bn) (on.mono (Below.size XE)) (r8.out.ext bn) s8) kR kR rfl rfl
   skip
   go_simp
   refine hK.out _ _ (KP.out _ (eT XE (Ext.alloc wv (.cells [.bool false,.slice none 0 0,.slice none 0 0].toArray 38)))) (fun _=>?_)
   clear hK K
   try simp only [jP,jJ]
   exact wpAnyH_to (L1_8_9 _ v3 B8 wv.heap.size (eT XE (Ext.alloc wv (.cells [.bool false,.slice none 0 0,.slice none 0 0].toArray 38))) (p3.out.ext (Ext.alloc wv (.cells [.bool false,.slice none 0 0,.slice none 0 0].toArray 38))) (r8.out.ext (Ext.alloc wv (.cells [.bool false,.slice none 0 0,.slice none 0 0].toArray 38))) s8 (Rt.new wv [.bool false,.slice none 0 0,.slice none 0 0] 38) (Below.size XE) (Nat.ne_of_lt r8.out.lt)) kR kR rfl rfl
  have L1_9:∀ (wv:World) (v3:Value) (B9:Nat),Hid (Ext w1 wv)→Hid (OwnQ 156 w1.heap.size wv v3 x)→Hid (Rt wv B9 3 38)→Hid (w1.heap.size≤B9)→wpAnyH Tryz.prog .any O Q9 SS 4 #[true,true,true,true,true,true,true,false,false,true,false,false] ⟨#[.agg #[.bool (decide (r.num < 0)),x1,x2],.agg #[y0,y1,y2,y3,y4,y5],.pointer (some ⟨w.heap.size,0,none⟩),.pointer (some ⟨w.heap.size+1,0,none⟩),.pointer (some ⟨w.heap.size+1+1,0,none⟩),undef,.pointer (some ⟨B9,0,none⟩),.agg #[.bool (decide (r.num < 0)),x1,x2],.pointer (some ⟨w.heap.size+1,0,none⟩),.agg #[y0,y1,y2],v3,.agg #[.bool (decide (r.num < 0)),x1,x2],.pointer (some ⟨w.heap.size+1,3,none⟩),.agg #[y3,y4,y5],undef,undef,undef,undef,undef,undef,undef,undef],[]⟩ wv:=by
   intro wv v3 B9 hX p3 r9 s9
   have hO1:=hO.out
   have hQ1:=hQ.out
   subst hO1
   subst hQ1
   have XE:=hX.out
   refine wpAnyH_ready (rs:=[7,8]) kR (by simp) ?_
   refine AllReadyH.cons (o:=_) rfl (fun K hK=>?_) (AllReadyH.cons (o:=_) rfl (fun K hK=>?_) AllReadyH.nil)
   ·skip
    go_simp
    go_at_call 66
    refine (HY.out ▸ rmul_any (HA.out.ext (eT b1 XE)) (HD.out.ext (eT b1 XE)) SR.out SB.out).mono ?_
    rintro e wn ⟨vn,rfl,bn,on⟩
    go_wp2_with fail
    refine hK.out _ _ (KP.out _ (eT XE bn)) (fun _=>?_)
    clear hK K
    try simp only [jP,jJ]
    exact wpAnyH_to (L2_9 wn v3 vn B9 (eT XE bn) (p3.out.ext bn) (on.mono (Below.size XE)) (r9.out.ext bn) s9) kR kR rfl rfl
   skip
   go_simp
   refine hK.out _ _ (KP.out _ (eT XE (Ext.alloc wv (.cells [.bool false,.slice none 0 0,.slice none 0 0].toArray 38)))) (fun _=>?_)
   clear hK K
   try simp only [jP,jJ]
   exact wpAnyH_to (L1_8_9 _ v3 wv.heap.size B9 (eT XE (Ext.alloc wv (.cells [.bool false,.slice none 0 0,.slice none 0 0].toArray 38))) (p3.out.ext (Ext.alloc wv (.cells [.bool false,.slice none 0 0,.slice none 0 0].toArray 38))) (Rt.new wv [.bool false,.slice none 0 0,.slice none 0 0] 38) (Below.size XE) (r9.out.ext (Ext.alloc wv (.cells [.bool false,.slice none 0 0,.slice none 0 0].toArray 38))) s9 (Nat.ne_of_gt r9.out.lt)) kR kR rfl rfl
  have L2_:∀ (wv:World) (v3 v7:Value),Hid (Ext w1 wv)→Hid (OwnQ 156 w1.heap.size wv v3 x)→Hid (OwnQ 156 w1.heap.size wv v7 y)→wpAnyH Tryz.prog .any O Q9 SS 4 #[true,true,true,true,true,true,true,true,false,false,false,false] ⟨#[.agg #[.bool (decide (r.num < 0)),x1,x2],.agg #[y0,y1,y2,y3,y4,y5],.pointer (some ⟨w.heap.size,0,none⟩),.pointer (some ⟨w.heap.size+1,0,none⟩),.pointer (some ⟨w.heap.size+1+1,0,none⟩),undef,undef,.agg #[.bool (decide (r.num < 0)),x1,x2],.pointer (some ⟨w.heap.size+1,0,none⟩),.agg #[y0,y1,y2],v3,.agg #[.bool (decide (r.num < 0)),x1,x2],.pointer (some ⟨w.heap.size+1,3,none⟩),.agg #[y3,y4,y5],v7,undef,undef,undef,undef,undef,undef,undef],[]⟩ wv:=by
   intro wv v3 v7 hX p3 p7
   have hO1:=hO.out
   have hQ1:=hQ.out
   subst hO1
   subst hQ1
   have XE:=hX.out
   refine wpAnyH_ready (rs:=[8,9]) kR (by simp) ?_
   refine AllReadyH.cons (o:=_) rfl (fun K hK=>?_) (AllReadyH.cons (o:=_) rfl (fun K hK=>?_) AllReadyH.nil)
   ·skip
    go_simp
    refine hK.out _ _ (KP.out _ (eT XE (Ext.alloc wv (.cells [.bool false,.slice none 0 0,.slice none 0 0].toArray 38)))) (fun _=>?_)
    clear hK K
    try simp only [jP,jJ]
    exact wpAnyH_to (L2_8 _ v3 v7 wv.heap.size (eT XE (Ext.alloc wv (.cells [.bool false,.slice none 0 0,.slice none 0 0].toArray 38))) (p3.out.ext (Ext.alloc wv (.cells [.bool false,.slice none 0 0,.slice none 0 0].toArray 38))) (p7.out.ext (Ext.alloc wv (.cells [.bool false,.slice none 0 0,.slice none 0 0].toArray 38))) (Rt.new wv [.bool false,.slice none 0 0,.slice none 0 0] 38) (Below.size XE)) kR kR rfl rfl
   skip
   go_simp
   refine hK.out _ _ (KP.out _ (eT XE (Ext.alloc wv (.cells [.bool false,.slice none 0 0,.slice none 0 0].toArray 38)))) (fun _=>?_)
   clear hK K
   try simp only [jP,jJ]
   exact wpAnyH_to (L2_9 _ v3 v7 wv.heap.size (eT XE (Ext.alloc wv (.cells [.bool false,.slice none 0 0,.slice none 0 0].toArray 38))) (p3.out.ext (Ext.alloc wv (.cells [.bool false,.slice none 0 0,.slice none 0 0].toArray 38))) (p7.out.ext (Ext.alloc wv (.cells [.bool false,.slice none 0 0,.slice none 0 0].toArray 38))) (Rt.new wv [.bool false,.slice none 0 0,.slice none 0 0] 38) (Below.size XE)) kR kR rfl rfl
  have L0_8:∀ (wv:World) (B8:Nat),Hid (Ext w1 wv)→Hid (Rt wv B8 3 38)→Hid (w1.heap.size≤B8)→wpAnyH Tryz.prog .any O Q9 SS 5 #[true,true,true,false,true,true,true,false,true,false,false,false] ⟨#[.agg #[.bool (decide (r.num < 0)),x1,x2],.agg #[y0,y1,y2,y3,y4,y5],.pointer (some ⟨w.heap.size,0,none⟩),.pointer (some ⟨w.heap.size+1,0,none⟩),.pointer (some ⟨w.heap.size+1+1,0,none⟩),.pointer (some ⟨B8,0,none⟩),undef,.agg #[.bool (decide (r.num < 0)),x1,x2],.pointer (some ⟨w.heap.size+1,0,none⟩),.agg #[y0,y1,y2],undef,.agg #[.bool (decide (r.num < 0)),x1,x2],.pointer (some ⟨w.heap.size+1,3,none⟩),.agg #[y3,y4,y5],undef,undef,undef,undef,undef,undef,undef,undef],[]⟩ wv:=by
   intro wv B8 hX r8 s8
   have hO1:=hO.out
   have hQ1:=hQ.out
   subst hO1
   subst hQ1
   have XE:=hX.out
   refine wpAnyH_ready (rs:=[3,9]) kR (by simp) ?_
   refine AllReadyH.cons (o:=_) rfl (fun K hK=>?_) (AllReadyH.cons (o:=_) rfl (fun K hK=>?_) AllReadyH.nil)
   ·skip
    go_simp
    go_at_call 66
    refine (HX.out ▸ rmul_any (HA.out.ext (eT b1 XE)) (HC.out.ext (eT b1 XE)) SR.out SA.out).mono ?_
    rintro e wn ⟨vn,rfl,bn,on⟩
    go_wp2_with fail
    refine hK.out _ _ (KP.out _ (eT XE bn)) (fun _=>?_)
    clear hK K
    try simp only [jP,jJ]
    exact wpAnyH_to (L1_8 wn vn B8 (eT XE bn) (on.mono (Below.size XE)) (r8.out.ext bn) s8) kR kR rfl rfl
   skip
   go_simp
   refine hK.out _ _ (KP.out _ (eT XE (Ext.alloc wv (.cells [.bool false,.slice none 0 0,.slice none 0 0].toArray 38)))) (fun _=>?_)
   clear hK K
   try simp only [jP,jJ]
   exact wpAnyH_to (L0_8_9 _ B8 wv.heap.size (eT XE (Ext.alloc wv (.cells [.bool false,.slice none 0 0,.slice none 0 0].toArray 38))) (r8.out.ext (Ext.alloc wv (.cells [.bool false,.slice none 0 0,.slice none 0 0].toArray 38))) s8 (Rt.new wv [.bool false,.slice none 0 0,.slice none 0 0] 38) (Below.size XE) (Nat.ne_of_lt r8.out.lt)) kR kR rfl rfl
  have L0_9:∀ (wv:World) (B9:Nat),Hid (Ext w1 wv)→Hid (Rt wv B9 3 38)→Hid (w1.heap.size≤B9)→wpAnyH Tryz.prog .any O Q9 SS 5 #[true,true,true,false,true,true,true,false,false,true,false,false] ⟨#[.agg #[.bool (decide (r.num < 0)),x1,x2],.agg #[y0,y1,y2,y3,y4,y5],.pointer (some ⟨w.heap.size,0,none⟩),.pointer (some ⟨w.heap.size+1,0,none⟩),.pointer (some ⟨w.heap.size+1+1,0,none⟩),undef,.pointer (some ⟨B9,0,none⟩),.agg #[.bool (decide (r.num < 0)),x1,x2],.pointer (some ⟨w.heap.size+1,0,none⟩),.agg #[y0,y1,y2],undef,.agg #[.bool (decide (r.num < 0)),x1,x2],.pointer (some ⟨w.heap.size+1,3,none⟩),.agg #[y3,y4,y5],undef,undef,undef,undef,undef,undef,undef,undef],[]⟩ wv:=by
   intro wv B9 hX r9 s9
   have hO1:=hO.out
   have hQ1:=hQ.out
   subst hO1
   subst hQ1
   have XE:=hX.out
   refine wpAnyH_ready (rs:=[3,8]) kR (by simp) ?_
   refine AllReadyH.cons (o:=_) rfl (fun K hK=>?_) (AllReadyH.cons (o:=_) rfl (fun K hK=>?_) AllReadyH.nil)
   ·skip
    go_simp
    go_at_call 66
    refine (HX.out ▸ rmul_any (HA.out.ext (eT b1 XE)) (HC.out.ext (eT b1 XE)) SR.out SA.out).mono ?_
    rintro e wn ⟨vn,rfl,bn,on⟩
    go_wp2_with fail
    refine hK.out _ _ (KP.out _ (eT XE bn)) (fun _=>?_)
    clear hK K
    try simp only [jP,jJ]
    exact wpAnyH_to (L1_9 wn vn B9 (eT XE bn) (on.mono (Below.size XE)) (r9.out.ext bn) s9) kR kR rfl rfl
   skip
   go_simp
   refine hK.out _ _ (KP.out _ (eT XE (Ext.alloc wv (.cells [.bool false,.slice none 0 0,.slice none 0 0].toArray 38)))) (fun _=>?_)
   clear hK K
   try simp only [jP,jJ]
   exact wpAnyH_to (L0_8_9 _ wv.heap.size B9 (eT XE (Ext.alloc wv (.cells [.bool false,.slice none 0 0,.slice none 0 0].toArray 38))) (Rt.new wv [.bool false,.slice none 0 0,.slice none 0 0] 38) (Below.size XE) (r9.out.ext (Ext.alloc wv (.cells [.bool false,.slice none 0 0,.slice none 0 0].toArray 38))) s9 (Nat.ne_of_gt r9.out.lt)) kR kR rfl rfl
  have L1_:∀ (wv:World) (v3:Value),Hid (Ext w1 wv)→Hid (OwnQ 156 w1.heap.size wv v3 x)→wpAnyH Tryz.prog .any O Q9 SS 5 #[true,true,true,true,true,true,true,false,false,false,false,false] ⟨#[.agg #[.bool (decide (r.num < 0)),x1,x2],.agg #[y0,y1,y2,y3,y4,y5],.pointer (some ⟨w.heap.size,0,none⟩),.pointer (some ⟨w.heap.size+1,0,none⟩),.pointer (some ⟨w.heap.size+1+1,0,none⟩),undef,undef,.agg #[.bool (decide (r.num < 0)),x1,x2],.pointer (some ⟨w.heap.size+1,0,none⟩),.agg #[y0,y1,y2],v3,.agg #[.bool (decide (r.num < 0)),x1,x2],.pointer (some ⟨w.heap.size+1,3,none⟩),.agg #[y3,y4,y5],undef,undef,undef,undef,undef,undef,undef,undef],[]⟩ wv:=by
   intro wv v3 hX p3
   have hO1:=hO.out
   have hQ1:=hQ.out
   subst hO1
   subst hQ1
   have XE:=hX.out
   refine wpAnyH_ready (rs:=[7,8,9]) kR (by simp) ?_
   refine AllReadyH.cons (o:=_) rfl (fun K hK=>?_) (AllReadyH.cons (o:=_) rfl (fun K hK=>?_) (AllReadyH.cons (o:=_) rfl (fun K hK=>?_) AllReadyH.nil))
   ·skip
    go_simp
    go_at_call 66
    refine (HY.out ▸ rmul_any (HA.out.ext (eT b1 XE)) (HD.out.ext (eT b1 XE)) SR.out SB.out).mono ?_
    rintro e wn ⟨vn,rfl,bn,on⟩
    go_wp2_with fail
    refine hK.out _ _ (KP.out _ (eT XE bn)) (fun _=>?_)
    clear hK K
    try simp only [jP,jJ]
    exact wpAnyH_to (L2_ wn v3 vn (eT XE bn) (p3.out.ext bn) (on.mono (Below.size XE))) kR kR rfl rfl
   ·skip
    go_simp
    refine hK.out _ _ (KP.out _ (eT XE (Ext.alloc wv (.cells [.bool false,.slice none 0 0,.slice none 0 0].toArray 38)))) (fun _=>?_)
    clear hK K
    try simp only [jP,jJ]
    exact wpAnyH_to (L1_8 _ v3 wv.heap.size (eT XE (Ext.alloc wv (.cells [.bool false,.slice none 0 0,.slice none 0 0].toArray 38))) (p3.out.ext (Ext.alloc wv (.cells [.bool false,.slice none 0 0,.slice none 0 0].toArray 38))) (Rt.new wv [.bool false,.slice none 0 0,.slice none 0 0] 38) (Below.size XE)) kR kR rfl rfl
   skip
   go_simp
   refine hK.out _ _ (KP.out _ (eT XE (Ext.alloc wv (.cells [.bool false,.slice none 0 0,.slice none 0 0].toArray 38)))) (fun _=>?_)
   clear hK K
   try simp only [jP,jJ]
   exact wpAnyH_to (L1_9 _ v3 wv.heap.size (eT XE (Ext.alloc wv (.cells [.bool false,.slice none 0 0,.slice none 0 0].toArray 38))) (p3.out.ext (Ext.alloc wv (.cells [.bool false,.slice none 0 0,.slice none 0 0].toArray 38))) (Rt.new wv [.bool false,.slice none 0 0,.slice none 0 0] 38) (Below.size XE)) kR kR rfl rfl
  have L0_:∀ (wv:World),Hid (Ext w1 wv)→wpAnyH Tryz.prog .any O Q9 SS 6 #[true,true,true,false,true,true,true,false,false,false,false,false] ⟨#[.agg #[.bool (decide (r.num < 0)),x1,x2],.agg #[y0,y1,y2,y3,y4,y5],.pointer (some ⟨w.heap.size,0,none⟩),.pointer (some ⟨w.heap.size+1,0,none⟩),.pointer (some ⟨w.heap.size+1+1,0,none⟩),undef,undef,.agg #[.bool (decide (r.num < 0)),x1,x2],.pointer (some ⟨w.heap.size+1,0,none⟩),.agg #[y0,y1,y2],undef,.agg #[.bool (decide (r.num < 0)),x1,x2],.pointer (some ⟨w.heap.size+1,3,none⟩),.agg #[y3,y4,y5],undef,undef,undef,undef,undef,undef,undef,undef],[]⟩ wv:=by
   intro wv hX
   have hO1:=hO.out
   have hQ1:=hQ.out
   subst hO1
   subst hQ1
   have XE:=hX.out
   refine wpAnyH_ready (rs:=[3,8,9]) kR (by simp) ?_
   refine AllReadyH.cons (o:=_) rfl (fun K hK=>?_) (AllReadyH.cons (o:=_) rfl (fun K hK=>?_) (AllReadyH.cons (o:=_) rfl (fun K hK=>?_) AllReadyH.nil))
   ·skip
    go_simp
    go_at_call 66
    refine (HX.out ▸ rmul_any (HA.out.ext (eT b1 XE)) (HC.out.ext (eT b1 XE)) SR.out SA.out).mono ?_
    rintro e wn ⟨vn,rfl,bn,on⟩
    go_wp2_with fail
    refine hK.out _ _ (KP.out _ (eT XE bn)) (fun _=>?_)
    clear hK K
    try simp only [jP,jJ]
    exact wpAnyH_to (L1_ wn vn (eT XE bn) (on.mono (Below.size XE))) kR kR rfl rfl
   ·skip
    go_simp
    refine hK.out _ _ (KP.out _ (eT XE (Ext.alloc wv (.cells [.bool false,.slice none 0 0,.slice none 0 0].toArray 38)))) (fun _=>?_)
    clear hK K
    try simp only [jP,jJ]
    exact wpAnyH_to (L0_8 _ wv.heap.size (eT XE (Ext.alloc wv (.cells [.bool false,.slice none 0 0,.slice none 0 0].toArray 38))) (Rt.new wv [.bool false,.slice none 0 0,.slice none 0 0] 38) (Below.size XE)) kR kR rfl rfl
   skip
   go_simp
   refine hK.out _ _ (KP.out _ (eT XE (Ext.alloc wv (.cells [.bool false,.slice none 0 0,.slice none 0 0].toArray 38)))) (fun _=>?_)
   clear hK K
   try simp only [jP,jJ]
   exact wpAnyH_to (L0_9 _ wv.heap.size (eT XE (Ext.alloc wv (.cells [.bool false,.slice none 0 0,.slice none 0 0].toArray 38))) (Rt.new wv [.bool false,.slice none 0 0,.slice none 0 0] 38) (Below.size XE)) kR kR rfl rfl
  have hO1:=hO.out
  have hQ1:=hQ.out
  subst hO1
  subst hQ1
  have hS1:=hSS.out
  subst hS1
  refine wp_region_held_drew (S:=fun w'=>(w'.cell? ⟨w.heap.size,0,none⟩=some (.bool (decide (r.num < 0)))∧w'.cell? ⟨w.heap.size,1,none⟩=some (x1)∧w'.cell? ⟨w.heap.size,2,none⟩=some (x2))∧(w'.cell? ⟨w.heap.size+1,0,none⟩=some (y0)∧w'.cell? ⟨w.heap.size+1,1,none⟩=some (y1)∧w'.cell? ⟨w.heap.size+1,2,none⟩=some (y2)∧w'.cell? ⟨w.heap.size+1,3,none⟩=some (y3)∧w'.cell? ⟨w.heap.size+1,4,none⟩=some (y4)∧w'.cell? ⟨w.heap.size+1,5,none⟩=some (y5))) kR (⟨(C1.out.ext (drew_ext w1)).c3,(C2.out.ext (drew_ext w1)).c6⟩) (fun hHeld=>?_)
  refine tkH 0 hHeld ?_
  simp only [jP,jJ]
  refine tkH 1 hHeld ?_
  simp only [jP,jJ]
  refine tkH 2 hHeld ?_
  simp only [jP,jJ]
  refine tkH 4 hHeld ?_
  simp only [jP,jJ]
  refine tkH 5 hHeld ?_
  simp only [jP,jJ]
  refine tkH 6 hHeld ?_
  simp only [jP,jJ]
  exact wpAnyH_to (L0_ w1.drew (drew_ext w1)) kR kR rfl rfl
 case rest=>
  obtain ⟨B,C,n,d,n',d',rfl,rfl,hB,hC,hT⟩:=hcut
  generalize wc=w2 at*
  obtain ⟨b2,k1,k2,⟨n1,d1,he1,on,od⟩,⟨n2,d2,he2,om,oc⟩⟩:=hT.out
  obtain ⟨rfl,rfl⟩:n=n1∧d=d1:=by simpa using he1
  obtain ⟨rfl,rfl⟩:n'=n2∧d'=d2:=by simpa using he2
  obtain ⟨an,cn,rfl,-,-,-,-⟩:=on.rd.1.shape
  obtain ⟨ad,cd,rfl,-,-,-,-⟩:=od.rd.1.shape
  obtain ⟨am,cm,rfl,-,-,-,-⟩:=om.rd.1.shape
  obtain ⟨ac,cc,rfl,-,-,-,-⟩:=oc.rd.1.shape
  have ON:=qH on
  have OD:=qH od
  have OM:=qH om
  have OC:=qH oc
  have K1:=qH k1
  have K2:=qH k2
  have QX:Hid (RdQ w2 (.agg #[.bool (decide (x.num < 0)),.slice an (limbs x.num.natAbs).length cn,.slice ad (dens x.den).length cd]) x):=⟨_,_,rfl,on.rd,od.rd⟩
  have QY:Hid (RdQ w2 (.agg #[.bool (decide (y.num < 0)),.slice am (limbs y.num.natAbs).length cm,.slice ac (dens y.den).length cc]) y):=⟨_,_,rfl,om.rd,oc.rd⟩
  have HMN:Hid (∀ {w va vb},RdQ w va x→RdQ w vb y→Calls Tryz.prog 102 #[va,vb] w (Gives w fun v' _=>v'=if (x - y).num.sign≤0 then va else vb)):=fun h1 h2=>rmin_val h1 h2 SX.out SY.out
  have HMX:Hid (∀ {w va vb},RdQ w va x→RdQ w vb y→Calls Tryz.prog 64 #[va,vb] w (Gives w fun v' _=>v'=if 0≤(x - y).num.sign then va else vb)):=fun h1 h2=>rmax_val h1 h2 SX.out SY.out
  unfold mn mx at hR
  clear hT he1 he2 on od om oc k1 k2 C1 C2
  go_upto_region 2 with (fail)
  by_cases h1:(x - y).num.sign≤0
  ·rw [if_pos h1] at hR
   by_cases h2:0≤(x - y).num.sign
   ·rw [if_pos h2] at hR
    have HMN2:Hid (∀ {w va vb},RdQ w va x→RdQ w vb y→Calls Tryz.prog 102 #[va,vb] w (Gives w fun v' _=>v'=va)):=fun k1 k2=>by have:=HMN.out k1 k2;rw [if_pos h1] at this;exact this
    have HMX2:Hid (∀ {w va vb},RdQ w va x→RdQ w vb y→Calls Tryz.prog 64 #[va,vb] w (Gives w fun v' _=>v'=va)):=fun k1 k2=>by have:=HMX.out k1 k2;rw [if_pos h2] at this;exact this
    clear HMN HMX h1 h2
    have b3:=drew_ext w2
    have XE:=b3
    refine wp_region_noPanic ?_
    refine wp_region_held_drew (S:=fun w'=>(w'.cell? ⟨B,0,none⟩=some (.bool (decide (x.num < 0)))∧w'.cell? ⟨B,1,none⟩=some (.slice an (limbs x.num.natAbs).length cn)∧w'.cell? ⟨B,2,none⟩=some (.slice ad (dens x.den).length cd))∧(w'.cell? ⟨C,0,none⟩=some (.bool (decide (y.num < 0)))∧w'.cell? ⟨C,1,none⟩=some (.slice am (limbs y.num.natAbs).length cm)∧w'.cell? ⟨C,2,none⟩=some (.slice ac (dens y.den).length cc))) kR (⟨K1.out.ext XE,K2.out.ext XE⟩) (fun hHeld=>?_)
    refine tkH 0 hHeld ?_
    simp only [jP,jJ]
    refine tkH 1 hHeld ?_
    simp only [jP,jJ]
    refine tkH 3 hHeld ?_
    simp only [jP,jJ]
    refine tkH 4 hHeld ?_
    simp only [jP,jJ]
    refine rdH 2 kR rfl (fun K hK=>?_)
    go_simp
    go_at_call 102;refine (HMN2.out (QX.out.ext b3) (QY.out.ext b3)).mono ?_;rintro e w4 ⟨_,rfl,b4,rfl⟩;(first | have XE:=eT XE b4 | have XE:=eT (eT XE (Ext.alloc _ _)) b4)
    go_wp2_with fail
    refine hK.out _ _ (⟨K1.out.ext XE,K2.out.ext XE⟩) (fun hHeld=>?_)
    clear hK K
    try simp only [jP,jJ]
    refine rdH 5 kR rfl (fun K hK=>?_)
    go_simp
    go_at_call 64;refine (HMX2.out (QX.out.ext (eT b3 b4)) (QY.out.ext (eT b3 b4))).mono ?_;rintro e w5 ⟨_,rfl,b5,rfl⟩;(first | have XE:=eT XE b5 | have XE:=eT (eT XE (Ext.alloc _ _)) b5);obtain ⟨_,_,_,_,_,_,j0,j1,j2,j3,j4,j5,g0,g1,g2,g3,g4,g5⟩:=(RR.out.ext (eT b2 (eT b3 (eT b4 b5)))).c6
    go_wp2_with fail
    refine hK.out _ _ (⟨K1.out.ext XE,K2.out.ext XE⟩) (fun hHeld=>?_)
    clear hK K
    try simp only [jP,jJ]
    refine tkH 6 hHeld ?_
    simp only [jP,jJ]
    refine rdH 7 kR rfl (fun K hK=>?_)
    go_simp
    refine hK.out _ _ (⟨(K1.out.ext XE).put6 (Ne.symm hB.out) _ _ _ _ _ _,(K2.out.ext XE).put6 (Ne.symm hC.out) _ _ _ _ _ _⟩) (fun hHeld=>?_)
    clear hK K
    try simp only [jP,jJ]
    refine dnH kR ?_
    go_wp2_with fail
    refine bodyPost_ret (v:=.agg #[.bool (decide (x.num < 0)),.slice an (limbs x.num.natAbs).length cn,.slice ad (dens x.den).length cd,.bool (decide (x.num < 0)),.slice an (limbs x.num.natAbs).length cn,.slice ad (dens x.den).length cd]) (by simp [results,Tryz.results63,go_sem,j0,j1,j2,j3,j4,j5]) rfl ?_
    exact hR.out _ _ (Gives.mk (put6_below (eT b1 (eT b2 (eT b3 (eT b4 b5)))) oM _ _ _ _ _ _) ⟨_,_,_,_,rfl,(ON.out.put6 (eT b3 (eT b4 b5)) (.inl (by have:=SZ.out;omega)) _ _ _ _ _ _).mono (by have:=SZ.out;omega),(OD.out.put6 (eT b3 (eT b4 b5)) (.inl (by have:=SZ.out;omega)) _ _ _ _ _ _).mono (by have:=SZ.out;omega),(ON.out.put6 (eT b3 (eT b4 b5)) (.inl (by have:=SZ.out;omega)) _ _ _ _ _ _).mono (by have:=SZ.out;omega),(OD.out.put6 (eT b3 (eT b4 b5)) (.inl (by have:=SZ.out;omega)) _ _ _ _ _ _).mono (by have:=SZ.out;omega)⟩)
   rw [if_neg h2] at hR
   have HMN2:Hid (∀ {w va vb},RdQ w va x→RdQ w vb y→Calls Tryz.prog 102 #[va,vb] w (Gives w fun v' _=>v'=va)):=fun k1 k2=>by have:=HMN.out k1 k2;rw [if_pos h1] at this;exact this
   have HMX2:Hid (∀ {w va vb},RdQ w va x→RdQ w vb y→Calls Tryz.prog 64 #[va,vb] w (Gives w fun v' _=>v'=vb)):=fun k1 k2=>by have:=HMX.out k1 k2;rw [if_neg h2] at this;exact this
   clear HMN HMX h1 h2
   have b3:=drew_ext w2
   have XE:=b3
   refine wp_region_noPanic ?_
   refine wp_region_held_drew (S:=fun w'=>(w'.cell? ⟨B,0,none⟩=some (.bool (decide (x.num < 0)))∧w'.cell? ⟨B,1,none⟩=some (.slice an (limbs x.num.natAbs).length cn)∧w'.cell? ⟨B,2,none⟩=some (.slice ad (dens x.den).length cd))∧(w'.cell? ⟨C,0,none⟩=some (.bool (decide (y.num < 0)))∧w'.cell? ⟨C,1,none⟩=some (.slice am (limbs y.num.natAbs).length cm)∧w'.cell? ⟨C,2,none⟩=some (.slice ac (dens y.den).length cc))) kR (⟨K1.out.ext XE,K2.out.ext XE⟩) (fun hHeld=>?_)
   refine tkH 0 hHeld ?_
   simp only [jP,jJ]
   refine tkH 1 hHeld ?_
   simp only [jP,jJ]
   refine tkH 3 hHeld ?_
   simp only [jP,jJ]
   refine tkH 4 hHeld ?_
   simp only [jP,jJ]
   refine rdH 2 kR rfl (fun K hK=>?_)
   go_simp
   go_at_call 102;refine (HMN2.out (QX.out.ext b3) (QY.out.ext b3)).mono ?_;rintro e w4 ⟨_,rfl,b4,rfl⟩;(first | have XE:=eT XE b4 | have XE:=eT (eT XE (Ext.alloc _ _)) b4)
   go_wp2_with fail
   refine hK.out _ _ (⟨K1.out.ext XE,K2.out.ext XE⟩) (fun hHeld=>?_)
   clear hK K
   try simp only [jP,jJ]
   refine rdH 5 kR rfl (fun K hK=>?_)
   go_simp
   go_at_call 64;refine (HMX2.out (QX.out.ext (eT b3 b4)) (QY.out.ext (eT b3 b4))).mono ?_;rintro e w5 ⟨_,rfl,b5,rfl⟩;(first | have XE:=eT XE b5 | have XE:=eT (eT XE (Ext.alloc _ _)) b5);obtain ⟨_,_,_,_,_,_,j0,j1,j2,j3,j4,j5,g0,g1,g2,g3,g4,g5⟩:=(RR.out.ext (eT b2 (eT b3 (eT b4 b5)))).c6
   go_wp2_with fail
   refine hK.out _ _ (⟨K1.out.ext XE,K2.out.ext XE⟩) (fun hHeld=>?_)
   clear hK K
   try simp only [jP,jJ]
   refine tkH 6 hHeld ?_
   simp only [jP,jJ]
   refine rdH 7 kR rfl (fun K hK=>?_)
   go_simp
   refine hK.out _ _ (⟨(K1.out.ext XE).put6 (Ne.symm hB.out) _ _ _ _ _ _,(K2.out.ext XE).put6 (Ne.symm hC.out) _ _ _ _ _ _⟩) (fun hHeld=>?_)
   clear hK K
   try simp only [jP,jJ]
   refine dnH kR ?_
   go_wp2_with fail
   refine bodyPost_ret (v:=.agg #[.bool (decide (x.num < 0)),.slice an (limbs x.num.natAbs).length cn,.slice ad (dens x.den).length cd,.bool (decide (y.num < 0)),.slice am (limbs y.num.natAbs).length cm,.slice ac (dens y.den).length cc]) (by simp [results,Tryz.results63,go_sem,j0,j1,j2,j3,j4,j5]) rfl ?_
   exact hR.out _ _ (Gives.mk (put6_below (eT b1 (eT b2 (eT b3 (eT b4 b5)))) oM _ _ _ _ _ _) ⟨_,_,_,_,rfl,(ON.out.put6 (eT b3 (eT b4 b5)) (.inl (by have:=SZ.out;omega)) _ _ _ _ _ _).mono (by have:=SZ.out;omega),(OD.out.put6 (eT b3 (eT b4 b5)) (.inl (by have:=SZ.out;omega)) _ _ _ _ _ _).mono (by have:=SZ.out;omega),(OM.out.put6 (eT b3 (eT b4 b5)) (.inl (by have:=SZ.out;omega)) _ _ _ _ _ _).mono (by have:=SZ.out;omega),(OC.out.put6 (eT b3 (eT b4 b5)) (.inl (by have:=SZ.out;omega)) _ _ _ _ _ _).mono (by have:=SZ.out;omega)⟩)
  rw [if_neg h1,if_pos oM] at hR
  have HMN2:Hid (∀ {w va vb},RdQ w va x→RdQ w vb y→Calls Tryz.prog 102 #[va,vb] w (Gives w fun v' _=>v'=vb)):=fun k1 k2=>by have:=HMN.out k1 k2;rw [if_neg h1] at this;exact this
  have HMX2:Hid (∀ {w va vb},RdQ w va x→RdQ w vb y→Calls Tryz.prog 64 #[va,vb] w (Gives w fun v' _=>v'=va)):=fun k1 k2=>by have:=HMX.out k1 k2;rw [if_pos oM] at this;exact this
  clear HMN HMX h1
  have b3:=drew_ext w2
  have XE:=b3
  refine wp_region_noPanic ?_
  refine wp_region_held_drew (S:=fun w'=>(w'.cell? ⟨B,0,none⟩=some (.bool (decide (x.num < 0)))∧w'.cell? ⟨B,1,none⟩=some (.slice an (limbs x.num.natAbs).length cn)∧w'.cell? ⟨B,2,none⟩=some (.slice ad (dens x.den).length cd))∧(w'.cell? ⟨C,0,none⟩=some (.bool (decide (y.num < 0)))∧w'.cell? ⟨C,1,none⟩=some (.slice am (limbs y.num.natAbs).length cm)∧w'.cell? ⟨C,2,none⟩=some (.slice ac (dens y.den).length cc))) kR (⟨K1.out.ext XE,K2.out.ext XE⟩) (fun hHeld=>?_)
  refine tkH 0 hHeld ?_
  simp only [jP,jJ]
  refine tkH 1 hHeld ?_
  simp only [jP,jJ]
  refine tkH 3 hHeld ?_
  simp only [jP,jJ]
  refine tkH 4 hHeld ?_
  simp only [jP,jJ]
  refine rdH 2 kR rfl (fun K hK=>?_)
  go_simp
  go_at_call 102;refine (HMN2.out (QX.out.ext b3) (QY.out.ext b3)).mono ?_;rintro e w4 ⟨_,rfl,b4,rfl⟩;(first | have XE:=eT XE b4 | have XE:=eT (eT XE (Ext.alloc _ _)) b4)
  go_wp2_with fail
  refine hK.out _ _ (⟨K1.out.ext XE,K2.out.ext XE⟩) (fun hHeld=>?_)
  clear hK K
  try simp only [jP,jJ]
  refine rdH 5 kR rfl (fun K hK=>?_)
  go_simp
  go_at_call 64;refine (HMX2.out (QX.out.ext (eT b3 b4)) (QY.out.ext (eT b3 b4))).mono ?_;rintro e w5 ⟨_,rfl,b5,rfl⟩;(first | have XE:=eT XE b5 | have XE:=eT (eT XE (Ext.alloc _ _)) b5);obtain ⟨_,_,_,_,_,_,j0,j1,j2,j3,j4,j5,g0,g1,g2,g3,g4,g5⟩:=(RR.out.ext (eT b2 (eT b3 (eT b4 b5)))).c6
  go_wp2_with fail
  refine hK.out _ _ (⟨K1.out.ext XE,K2.out.ext XE⟩) (fun hHeld=>?_)
  clear hK K
  try simp only [jP,jJ]
  refine tkH 6 hHeld ?_
  simp only [jP,jJ]
  refine rdH 7 kR rfl (fun K hK=>?_)
  go_simp
  refine hK.out _ _ (⟨(K1.out.ext XE).put6 (Ne.symm hB.out) _ _ _ _ _ _,(K2.out.ext XE).put6 (Ne.symm hC.out) _ _ _ _ _ _⟩) (fun hHeld=>?_)
  clear hK K
  try simp only [jP,jJ]
  refine dnH kR ?_
  go_wp2_with fail
  refine bodyPost_ret (v:=.agg #[.bool (decide (y.num < 0)),.slice am (limbs y.num.natAbs).length cm,.slice ac (dens y.den).length cc,.bool (decide (x.num < 0)),.slice an (limbs x.num.natAbs).length cn,.slice ad (dens x.den).length cd]) (by simp [results,Tryz.results63,go_sem,j0,j1,j2,j3,j4,j5]) rfl ?_
  exact hR.out _ _ (Gives.mk (put6_below (eT b1 (eT b2 (eT b3 (eT b4 b5)))) oM _ _ _ _ _ _) ⟨_,_,_,_,rfl,(OM.out.put6 (eT b3 (eT b4 b5)) (.inl (by have:=SZ.out;omega)) _ _ _ _ _ _).mono (by have:=SZ.out;omega),(OC.out.put6 (eT b3 (eT b4 b5)) (.inl (by have:=SZ.out;omega)) _ _ _ _ _ _).mono (by have:=SZ.out;omega),(ON.out.put6 (eT b3 (eT b4 b5)) (.inl (by have:=SZ.out;omega)) _ _ _ _ _ _).mono (by have:=SZ.out;omega),(OD.out.put6 (eT b3 (eT b4 b5)) (.inl (by have:=SZ.out;omega)) _ _ _ _ _ _).mono (by have:=SZ.out;omega)⟩)
end Go.Proofs.YtmlhccajicmpfaaGreat
