/- attestlaw21.awake -/
import Derived.Test.YthpaifdfafjlcaaGreatSq
import Derived.Test.YthpaifdfafjlcaaGreatSolAll
import Derived.Test.YthpaifdfafjlcaaGreatLinAll
import Derived.Test.YthpaifdfafjlcaaGreatPAwake08
import Derived.Test.YthpaifdfafjlcaaGreatLinPlain
namespace Go.Proofs.YthpaifdfafjlcaaGreat
open Go.RowKit Go.Att Go.Sx

theorem meet5 {w0 wv:World} {B:Nat} (rB:Rt wv B 5 55) (hx:Ext w0 wv) (hB:w0.heap.size≤B) {x0 x1 x2 x3 x4:Value} {p:AT} (o:OwnA wv (.agg #[x0,x1,x2,x3,x4]) p):
  ∃ W,W=((((wv.setCell ⟨B,0,none⟩ x0).setCell ⟨B,1,none⟩ x1).setCell ⟨B,2,none⟩ x2).setCell ⟨B,3,none⟩ x3).setCell ⟨B,4,none⟩ x4∧Ext w0 W∧Hid (Bx W B [x0,x1,x2,x3,x4])∧Hid (OwnA W (.agg #[x0,x1,x2,x3,x4]) p):=by
 refine ⟨Att.putL wv B 0 [x0,x1,x2,x3,x4],rfl,putL_below hB _ _ hx,Lib.hid (rB.putL_at [x0,x1,x2,x3,x4] rfl).1,?_⟩
 obtain ⟨s,x,y,z,he,h⟩:=o
 exact Lib.hid ⟨s,x,y,z,he,h.putT rB (by decide) (by decide) 0 _⟩
set_option maxHeartbeats 20000000 in
set_option maxRecDepth 100000 in
set_option linter.unusedSimpArgs false in
theorem awake21 {w:World}:Calls Tryz.prog 8 #[] w (Gives w fun v' _=>v'=.bool true):=by
 refine via fun R hR=>?_
 have n1:((1:Int):Rat)≠0:=by decide +kernel
 have nm1:((-1:Int):Rat)≠0:=by decide +kernel
 have S1:=Sz.int 1 (by omega)
 have S2:=Sz.int 2 (by omega)
 have Sm:=Sz.int (-1) (by omega)
 have HV:Hid (∀ w,Calls Tryz.prog 26 #[.int .i64 0] w (Gives w fun v' w'=>OwnX 0 w' v' [((0:Int),((1:Int):Rat))] 0)):=fun w=>lvar_any.mono fun _ _ ⟨v,e,b,o⟩=>⟨v,e,b,o.mono (Nat.zero_le _)⟩
 have HI1:Hid (∀ w,Calls Tryz.prog 20 #[.int .i64 1] w (Gives w fun v' w'=>OwnQ 115 0 w' v' ((1:Int):Rat))):=fun w=>(rint_any (by omega)).mono fun _ _ ⟨v,e,b,o⟩=>⟨v,e,b,o.mono (Nat.zero_le _)⟩
 have HI2:Hid (∀ w,Calls Tryz.prog 20 #[.int .i64 2] w (Gives w fun v' w'=>OwnQ 115 0 w' v' ((2:Int):Rat))):=fun w=>(rint_any (by omega)).mono fun _ _ ⟨v,e,b,o⟩=>⟨v,e,b,o.mono (Nat.zero_le _)⟩
 have HO:Hid (∀ w v q,OwnQ 115 0 w v q→Calls Tryz.prog 24 #[v] w (Gives w fun v' w'=>OwnX 0 w' v' [] q)):=fun w v q h=>(lof_any h).mono fun _ _ ⟨v,e,b,o⟩=>⟨v,e,b,o.mono (Nat.zero_le _)⟩
 have HSA:Hid (∀ w va vb,RdX w va [((0:Int),((1:Int):Rat))] 0→RdX w vb [] ((1:Int):Rat)→Calls Tryz.prog 27 #[va,vb] w (Gives w fun v' w'=>OwnX 0 w' v' [((0:Int),((1:Int):Rat))] ((-1:Int):Rat))):=fun w va vb h1 h2=>
  (lsub_any 2 2 h1 h2 (by intro t ht;simp at ht;subst ht;exact S1) (fun t ht=>by cases ht) (Sz.zero.le (by decide)) S1 (by decide) (by decide) (by decide)).mono fun _ _ ⟨v,e,b,l',hf,hc,_,_,o⟩=>⟨v,e,b,by
   have h:=FormT.uniq hf (form_single n1) (fun x=>by
    rw [hc]
    show cf _ x - 0=_
    grind)
   rw [h,show (0:Rat) - ((1:Int):Rat)=((-1:Int):Rat) by decide +kernel] at o
   exact o.mono (Nat.zero_le _)⟩
 have HSB:Hid (∀ w va vb,RdX w va [] ((2:Int):Rat)→RdX w vb [((0:Int),((1:Int):Rat))] 0→Calls Tryz.prog 27 #[va,vb] w (Gives w fun v' w'=>OwnX 0 w' v' [((0:Int),((-1:Int):Rat))] ((2:Int):Rat))):=fun w va vb h1 h2=>
  (lsub_any 2 2 h1 h2 (fun t ht=>by cases ht) (by intro t ht;simp at ht;subst ht;exact S1) S2 (Sz.zero.le (by decide)) (by decide) (by decide) (by decide)).mono fun _ _ ⟨v,e,b,l',hf,hc,_,_,o⟩=>⟨v,e,b,by
   have h:=FormT.uniq hf (form_single nm1) (fun x=>by
    rw [hc]
    show 0 - cf _ x=_
    rw [cf_single,cf_single]
    split
    ·decide +kernel
    ·decide +kernel)
   rw [h,show ((2:Int):Rat) - (0:Rat)=((2:Int):Rat) by decide +kernel] at o
   exact o.mono (Nat.zero_le _)⟩
 have HS2:Hid (∀ w v,RdRow 5 OwnA w v [awA,awB]→Calls Tryz.prog 14 #[.int .i64 1,v] w (Gives w fun v' w'=>∃ vp vt P T,v'=.tuple #[.agg #[.bool false,vp,vt],.int .i64 0]∧OwnRow 3 (OwnQp 115) 49 w.heap.size w' vp P∧OwnRow 3 (OwnQp 115) 49 w.heap.size w' vt T∧SolA 1 [awA,awB] false P T)):=fun w v h=>
  (solve_any (n0:=1) h (fun a ha=>⟨by have:=(aw_smx a ha).1;omega,fun t ht=>((aw_smx a ha).2.1 t ht).le (by decide)⟩) aw_chk2 (fun a ha=>by rcases aw_in ha with rfl | rfl;exact awA_tame;exact awB_tame) (.inl (by decide))).mono fun _ _ ⟨v,e,b,f,vp,vt,P,T,h1,h2,h3,h4⟩=>⟨v,e,b,vp,vt,P,T,by
   cases f with
   | true=>exact (aw_no h4).elim
   | false=>exact ⟨h1,h2,h3,h4⟩⟩
 have HS1:Hid (∀ w v,RdRow 5 OwnA w v [awA]→Calls Tryz.prog 14 #[.int .i64 1,v] w (Gives w fun v' w'=>∃ vp vt P T,v'=.tuple #[.agg #[.bool true,vp,vt],.int .i64 0]∧OwnRow 3 (OwnQp 115) 49 w.heap.size w' vp P∧OwnRow 3 (OwnQp 115) 49 w.heap.size w' vt T∧SolA 1 [awA] true P T)):=fun w v h=>
  (solve_any (n0:=1) h (fun a ha=>by
   obtain rfl:a=awA:=by simpa using ha
   exact ⟨by decide,fun t ht=>((aw_smx awA (by simp)).2.1 t ht).le (by decide)⟩) aw_chk1 (fun a ha=>by
   obtain rfl:a=awA:=by simpa using ha
   exact awA_tame) (.inl (by decide))).mono fun _ _ ⟨v,e,b,f,vp,vt,P,T,h1,h2,h3,h4⟩=>⟨v,e,b,vp,vt,P,T,by
   cases f with
   | true=>exact ⟨h1,h2,h3,h4⟩
   | false=>exact (aw_yes h4).elim⟩
 have HR2:Hid (∀ w v vp vt P T,RdRow 5 OwnA w v [awA,awB]→RdRow 3 (OwnQp 115) w vp P→RdRow 3 (OwnQp 115) w vt T→SolA 1 [awA,awB] false P T→Calls Tryz.prog 17 #[.int .i64 1,v,.agg #[.bool false,vp,vt]] w (Gives w fun v' _=>v'=.bool true)):=fun w v vp vt P T h h1 h2 h3=>
  right_sol (n0:=1) h3 aw_chk2 (fun a ha=>by rcases aw_in ha with rfl | rfl;exact awA_tame;exact awB_tame) (by decide) aw_smx h h1 h2
 have HR1:Hid (∀ w v vp vt P T,RdRow 5 OwnA w v [awA]→RdRow 3 (OwnQp 115) w vp P→RdRow 3 (OwnQp 115) w vt T→SolA 1 [awA] true P T→Calls Tryz.prog 17 #[.int .i64 1,v,.agg #[.bool true,vp,vt]] w (Gives w fun v' _=>v'=.bool true)):=fun w v vp vt P T h h1 h2 h3=>
  right_sol (n0:=1) h3 aw_chk1 (fun a ha=>by
   obtain rfl:a=awA:=by simpa using ha
   exact awA_tame) (by decide) (fun a ha=>by
   obtain rfl:a=awA:=by simpa using ha
   exact aw_smx _ (by simp)) h h1 h2
 have HAA:Hid (∀ w x0 x1 x2 x3,OwnA w (.agg #[x0,x1,x2,x3,.int .i64 1]) (([((0:Int),((1:Int):Rat))],((-1:Int):Rat)),1)→OwnA w (.agg #[x0,x1,x2,x3,.int .i64 1]) awA):=fun _ _ _ _ _ h=>h
 have HAB:Hid (∀ w x0 x1 x2 x3,OwnA w (.agg #[x0,x1,x2,x3,.int .i64 1]) (([((0:Int),((-1:Int):Rat))],((2:Int):Rat)),1)→OwnA w (.agg #[x0,x1,x2,x3,.int .i64 1]) awB):=fun _ _ _ _ _ h=>h
 clear n1 nm1 S1 S2 Sm
 generalize awA=aA at*
 generalize awB=aB at*
 generalize ((1:Int):Rat)=q1 at*
 generalize ((2:Int):Rat)=q2 at*
 generalize ((-1:Int):Rat)=qm at*
 go_enter Tryz.func8,Tryz.ntmps8
 go_wp2_with fail
 refine (HV.out w).mono ?_
 rintro e w1 ⟨_,rfl,b1,o1⟩
 obtain ⟨a,k,s,b,m,d,b',m',d',rfl,-,-,O1⟩:=o1.op
 clear o1
 change Hid (OwnX 0 w1 (.agg #[.slice a 1 k,.bool s,.slice b m d,.slice b' m' d']) [((0:Int),q1)] 0) at O1
 obtain ⟨w2,hw2,b2,c2,-,-⟩:=bx1 w1 [.slice a 1 k,.bool s,.slice b m d,.slice b' m' d'] 53
 have HW:=Lib.hid hw2
 have C2:=Lib.hid c2
 clear hw2 c2
 show _
 go_upto_region 2 with (fail)
 rw [← HW.out]
 clear HW
 have HX2:=Lib.hid (O1.out.rd.ext b2)
 have SZ2:Hid (w1.heap.size < w2.heap.size):=C2.out.lt
 obtain ⟨BX,hBX⟩:∃ BX,w1.heap.size=BX:=⟨_,rfl⟩
 rw [hBX] at C2 SZ2 ⊢
 clear hBX O1
 go_cut [2] (fun s2 wx=>∃ (B:Nat) (x0 x1 x2 x3:Value),s2=.pointer (some ⟨B,0,none⟩)∧Ext w2 wx∧Hid (Bx wx B [x0,x1,x2,x3,.int .i64 1])∧Hid (OwnA wx (.agg #[x0,x1,x2,x3,.int .i64 1]) (([((0:Int),q1)],qm),1)))
 case first=>
  as_aux_lemma=>
   refine wp_region_noPanic ?_
   refine wp_region_held_drew (S:=fun w'=>w'.cell? ⟨BX,0,none⟩=some (.slice a 1 k)∧w'.cell? ⟨BX,1,none⟩=some (.bool s)∧w'.cell? ⟨BX,2,none⟩=some (.slice b m d)∧w'.cell? ⟨BX,3,none⟩=some (.slice b' m' d')) (by kernel_rfl) ((C2.out.ext (drew_ext w2)).c4) (fun hHeld=>?_)
   refine tkH 0 hHeld ?_
   simp only [jP,jA,jB,jC,jD,jE,jF]
   refine anyH_cap fun O Q9 AA hO hQ hA=>?_
   obtain ⟨SS,hSS⟩:∃ SS:World→Prop,Hid (SS=fun w'=>w'.cell? ⟨BX,0,none⟩=some (.slice a 1 k)∧w'.cell? ⟨BX,1,none⟩=some (.bool s)∧w'.cell? ⟨BX,2,none⟩=some (.slice b m d)∧w'.cell? ⟨BX,3,none⟩=some (.slice b' m' d')):=⟨_,rfl⟩
   have KP:Hid (∀ wv,Ext w2 wv→SS wv):=fun wv XE=>by rw [hSS.out];exact (C2.out.ext XE).c4
   have L4_5:∀ (wv:World) (v1 v2 v3 v4:Value) (B5:Nat),Hid (Ext w2 wv)→Hid (OwnQ 115 0 wv v1 q1)→Hid (OwnX 0 wv v2 [] q1)→Hid (OwnX 0 wv v3 [((0:Int),q1)] qm)→Hid (OwnA wv v4 (([((0:Int),q1)],qm),1))→Hid (Rt wv B5 5 55)→Hid (w2.heap.size≤B5)→wpAnyH Tryz.prog .any O Q9 SS 1 #[true,true,true,true,true,true,false] (((((AA.put (some 10) v1).put (some 11) v2).put (some 12) v3).put (some 13) v4).put (some 2) (.pointer (some ⟨B5,0,none⟩))) wv:=by
    intro wv v1 v2 v3 v4 B5 hX p1 p2 p3 p4 r5 s5
    have hO1:=hO.out
    have hQ1:=hQ.out
    have hA1:=hA.out
    subst hO1
    subst hQ1
    subst hA1
    have XE:=hX.out
    have hHeld:=KP.out _ XE
    have hS1:=hSS.out
    subst hS1
    try simp only [jP,jA,jB,jC,jD,jE,jF]
    have k0_5:BX≠B5:=by have h1:=s5.out;have hz0:=SZ2.out;omega
    obtain ⟨_,_,_,_,_,i5_0,i5_1,i5_2,i5_3,i5_4,f5_0,f5_1,f5_2,f5_3,f5_4⟩:=r5.out.c5
    obtain ⟨g0,g1,g2,g3,g4,g5,g6,g7,g8,rfl,-⟩:=p4.out.op
    have OA:=p4.out
    refine rdH 6 (by kernel_rfl) rfl (fun K hK=>?_)
    go_simp
    refine hK.out _ _ (((C2.out.ext XE).putL k0_5 0 [_,_,_,_,_]).c4) (fun hHeld=>?_)
    clear hK K
    try simp only [jP,jA,jB,jC,jD,jE,jF]
    refine wpAnyH_done (by kernel_rfl) ?_ _
    refine NoPanic.normal ?_
    go_wp2_with fail
    go_meet
    obtain ⟨W,hW,hM1,hM2,hM3⟩:=meet5 r5.out hX.out s5.out OA
    simp only [List.length_cons,List.length_nil,Nat.zero_add] at hW
    rw [← hW]
    exact ⟨B5,_,_,_,_,rfl,hM1,hM2,hM3⟩
   have L3_5:∀ (wv:World) (v1 v2 v3:Value) (B5:Nat),Hid (Ext w2 wv)→Hid (OwnQ 115 0 wv v1 q1)→Hid (OwnX 0 wv v2 [] q1)→Hid (OwnX 0 wv v3 [((0:Int),q1)] qm)→Hid (Rt wv B5 5 55)→Hid (w2.heap.size≤B5)→wpAnyH Tryz.prog .any O Q9 SS 2 #[true,true,true,true,false,true,false] ((((AA.put (some 10) v1).put (some 11) v2).put (some 12) v3).put (some 2) (.pointer (some ⟨B5,0,none⟩))) wv:=by
    intro wv v1 v2 v3 B5 hX p1 p2 p3 r5 s5
    have hO1:=hO.out
    have hQ1:=hQ.out
    have hA1:=hA.out
    subst hO1
    subst hQ1
    subst hA1
    have XE:=hX.out
    have hHeld:=KP.out _ XE
    have hS1:=hSS.out
    subst hS1
    try simp only [jP,jA,jB,jC,jD,jE,jF]
    obtain ⟨f0,f1,f2,f3,f4,f5,f6,f7,f8,rfl,-,-,OX⟩:=p3.out.op
    refine tkH 4 hHeld ?_
    simp only [jP,jA,jB,jC,jD,jE,jF]
    exact wpAnyH_at (L4_5 wv _ _ _ _ B5 hX.out p1.out p2.out p3.out (⟨_,_,_,_,rfl,p3.out⟩) r5.out s5.out) (by kernel_rfl) (by kernel_rfl) (by kernel_rfl)
   have L4_:∀ (wv:World) (v1 v2 v3 v4:Value),Hid (Ext w2 wv)→Hid (OwnQ 115 0 wv v1 q1)→Hid (OwnX 0 wv v2 [] q1)→Hid (OwnX 0 wv v3 [((0:Int),q1)] qm)→Hid (OwnA wv v4 (([((0:Int),q1)],qm),1))→wpAnyH Tryz.prog .any O Q9 SS 2 #[true,true,true,true,true,false,false] ((((AA.put (some 10) v1).put (some 11) v2).put (some 12) v3).put (some 13) v4) wv:=by
    intro wv v1 v2 v3 v4 hX p1 p2 p3 p4
    have hO1:=hO.out
    have hQ1:=hQ.out
    have hA1:=hA.out
    subst hO1
    subst hQ1
    subst hA1
    have XE:=hX.out
    try simp only [jP,jA,jB,jC,jD,jE,jF]
    refine rdH 5 (by kernel_rfl) rfl (fun K hK=>?_)
    go_simp
    refine hK.out _ _ (KP.out _ (Ext.trans XE (Ext.alloc _ _))) (fun _=>?_)
    clear hK K
    try simp only [jP,jA,jB,jC,jD,jE,jF]
    exact wpAnyH_at (L4_5 _ v1 v2 v3 v4 wv.heap.size (Ext.trans XE (Ext.alloc wv (.cells [.slice none 0 0,.bool false,.slice none 0 0,.slice none 0 0,.int .i64 0].toArray 55))) (p1.out.ext (Ext.alloc wv (.cells [.slice none 0 0,.bool false,.slice none 0 0,.slice none 0 0,.int .i64 0].toArray 55))) (p2.out.ext (Ext.alloc wv (.cells [.slice none 0 0,.bool false,.slice none 0 0,.slice none 0 0,.int .i64 0].toArray 55))) (p3.out.ext (Ext.alloc wv (.cells [.slice none 0 0,.bool false,.slice none 0 0,.slice none 0 0,.int .i64 0].toArray 55))) (p4.out.ext (Ext.alloc wv (.cells [.slice none 0 0,.bool false,.slice none 0 0,.slice none 0 0,.int .i64 0].toArray 55))) (Rt.new wv [.slice none 0 0,.bool false,.slice none 0 0,.slice none 0 0,.int .i64 0] 55) (Below.size XE)) (by kernel_rfl) (by kernel_rfl) (by kernel_rfl)
   have L2_5:∀ (wv:World) (v1 v2:Value) (B5:Nat),Hid (Ext w2 wv)→Hid (OwnQ 115 0 wv v1 q1)→Hid (OwnX 0 wv v2 [] q1)→Hid (Rt wv B5 5 55)→Hid (w2.heap.size≤B5)→wpAnyH Tryz.prog .any O Q9 SS 3 #[true,true,true,false,false,true,false] (((AA.put (some 10) v1).put (some 11) v2).put (some 2) (.pointer (some ⟨B5,0,none⟩))) wv:=by
    intro wv v1 v2 B5 hX p1 p2 r5 s5
    have hO1:=hO.out
    have hQ1:=hQ.out
    have hA1:=hA.out
    subst hO1
    subst hQ1
    subst hA1
    have XE:=hX.out
    try simp only [jP,jA,jB,jC,jD,jE,jF]
    refine rdH 3 (by kernel_rfl) rfl (fun K hK=>?_)
    go_simp
    go_at_call 27
    refine (HSA.out _ _ _ (HX2.out.ext XE) p2.out.rd).mono ?_
    rintro e wn ⟨vn,rfl,bn,on⟩
    go_wp2_with fail
    refine hK.out _ _ (KP.out _ (Ext.trans XE bn)) (fun _=>?_)
    clear hK K
    try simp only [jP,jA,jB,jC,jD,jE,jF]
    exact wpAnyH_at (L3_5 wn v1 v2 vn B5 (Ext.trans XE bn) (p1.out.ext bn) (p2.out.ext bn) (on) (r5.out.ext bn) s5) (by kernel_rfl) (by kernel_rfl) (by kernel_rfl)
   have L3_:∀ (wv:World) (v1 v2 v3:Value),Hid (Ext w2 wv)→Hid (OwnQ 115 0 wv v1 q1)→Hid (OwnX 0 wv v2 [] q1)→Hid (OwnX 0 wv v3 [((0:Int),q1)] qm)→wpAnyH Tryz.prog .any O Q9 SS 3 #[true,true,true,true,false,false,false] (((AA.put (some 10) v1).put (some 11) v2).put (some 12) v3) wv:=by
    intro wv v1 v2 v3 hX p1 p2 p3
    have hO1:=hO.out
    have hQ1:=hQ.out
    have hA1:=hA.out
    subst hO1
    subst hQ1
    subst hA1
    have XE:=hX.out
    have hHeld:=KP.out _ XE
    have hS1:=hSS.out
    subst hS1
    try simp only [jP,jA,jB,jC,jD,jE,jF]
    obtain ⟨f0,f1,f2,f3,f4,f5,f6,f7,f8,rfl,-,-,OX⟩:=p3.out.op
    refine tkH 4 hHeld ?_
    simp only [jP,jA,jB,jC,jD,jE,jF]
    exact wpAnyH_at (L4_ wv _ _ _ _ hX.out p1.out p2.out p3.out (⟨_,_,_,_,rfl,p3.out⟩)) (by kernel_rfl) (by kernel_rfl) (by kernel_rfl)
   have L1_5:∀ (wv:World) (v1:Value) (B5:Nat),Hid (Ext w2 wv)→Hid (OwnQ 115 0 wv v1 q1)→Hid (Rt wv B5 5 55)→Hid (w2.heap.size≤B5)→wpAnyH Tryz.prog .any O Q9 SS 4 #[true,true,false,false,false,true,false] ((AA.put (some 10) v1).put (some 2) (.pointer (some ⟨B5,0,none⟩))) wv:=by
    intro wv v1 B5 hX p1 r5 s5
    have hO1:=hO.out
    have hQ1:=hQ.out
    have hA1:=hA.out
    subst hO1
    subst hQ1
    subst hA1
    have XE:=hX.out
    try simp only [jP,jA,jB,jC,jD,jE,jF]
    refine rdH 2 (by kernel_rfl) rfl (fun K hK=>?_)
    go_simp
    go_at_call 24
    refine (HO.out _ _ _ p1.out).mono ?_
    rintro e wn ⟨vn,rfl,bn,on⟩
    go_wp2_with fail
    refine hK.out _ _ (KP.out _ (Ext.trans XE bn)) (fun _=>?_)
    clear hK K
    try simp only [jP,jA,jB,jC,jD,jE,jF]
    exact wpAnyH_at (L2_5 wn v1 vn B5 (Ext.trans XE bn) (p1.out.ext bn) (on) (r5.out.ext bn) s5) (by kernel_rfl) (by kernel_rfl) (by kernel_rfl)
   have L2_:∀ (wv:World) (v1 v2:Value),Hid (Ext w2 wv)→Hid (OwnQ 115 0 wv v1 q1)→Hid (OwnX 0 wv v2 [] q1)→wpAnyH Tryz.prog .any O Q9 SS 4 #[true,true,true,false,false,false,false] ((AA.put (some 10) v1).put (some 11) v2) wv:=by
    intro wv v1 v2 hX p1 p2
    have hO1:=hO.out
    have hQ1:=hQ.out
    have hA1:=hA.out
    subst hO1
    subst hQ1
    subst hA1
    have XE:=hX.out
    try simp only [jP,jA,jB,jC,jD,jE,jF]
    refine wpAnyH_ready (rs:=[3,5]) (by kernel_rfl) (by simp) ?_
    refine AllReadyH.cons (o:=_) rfl (fun K hK=>?_) (AllReadyH.cons (o:=_) rfl (fun K hK=>?_) AllReadyH.nil)
    ·skip
     go_simp
     go_at_call 27
     refine (HSA.out _ _ _ (HX2.out.ext XE) p2.out.rd).mono ?_
     rintro e wn ⟨vn,rfl,bn,on⟩
     go_wp2_with fail
     refine hK.out _ _ (KP.out _ (Ext.trans XE bn)) (fun _=>?_)
     clear hK K
     try simp only [jP,jA,jB,jC,jD,jE,jF]
     exact wpAnyH_at (L3_ wn v1 v2 vn (Ext.trans XE bn) (p1.out.ext bn) (p2.out.ext bn) (on)) (by kernel_rfl) (by kernel_rfl) (by kernel_rfl)
    ·skip
     go_simp
     refine hK.out _ _ (KP.out _ (Ext.trans XE (Ext.alloc _ _))) (fun _=>?_)
     clear hK K
     try simp only [jP,jA,jB,jC,jD,jE,jF]
     exact wpAnyH_at (L2_5 _ v1 v2 wv.heap.size (Ext.trans XE (Ext.alloc wv (.cells [.slice none 0 0,.bool false,.slice none 0 0,.slice none 0 0,.int .i64 0].toArray 55))) (p1.out.ext (Ext.alloc wv (.cells [.slice none 0 0,.bool false,.slice none 0 0,.slice none 0 0,.int .i64 0].toArray 55))) (p2.out.ext (Ext.alloc wv (.cells [.slice none 0 0,.bool false,.slice none 0 0,.slice none 0 0,.int .i64 0].toArray 55))) (Rt.new wv [.slice none 0 0,.bool false,.slice none 0 0,.slice none 0 0,.int .i64 0] 55) (Below.size XE)) (by kernel_rfl) (by kernel_rfl) (by kernel_rfl)
   have L0_5:∀ (wv:World) (B5:Nat),Hid (Ext w2 wv)→Hid (Rt wv B5 5 55)→Hid (w2.heap.size≤B5)→wpAnyH Tryz.prog .any O Q9 SS 5 #[true,false,false,false,false,true,false] (AA.put (some 2) (.pointer (some ⟨B5,0,none⟩))) wv:=by
    intro wv B5 hX r5 s5
    have hO1:=hO.out
    have hQ1:=hQ.out
    have hA1:=hA.out
    subst hO1
    subst hQ1
    subst hA1
    have XE:=hX.out
    try simp only [jP,jA,jB,jC,jD,jE,jF]
    refine rdH 1 (by kernel_rfl) rfl (fun K hK=>?_)
    go_simp
    go_at_call 20
    refine (HI1.out _).mono ?_
    rintro e wn ⟨vn,rfl,bn,on⟩
    go_wp2_with fail
    refine hK.out _ _ (KP.out _ (Ext.trans XE bn)) (fun _=>?_)
    clear hK K
    try simp only [jP,jA,jB,jC,jD,jE,jF]
    exact wpAnyH_at (L1_5 wn vn B5 (Ext.trans XE bn) (on) (r5.out.ext bn) s5) (by kernel_rfl) (by kernel_rfl) (by kernel_rfl)
   have L1_:∀ (wv:World) (v1:Value),Hid (Ext w2 wv)→Hid (OwnQ 115 0 wv v1 q1)→wpAnyH Tryz.prog .any O Q9 SS 5 #[true,true,false,false,false,false,false] (AA.put (some 10) v1) wv:=by
    intro wv v1 hX p1
    have hO1:=hO.out
    have hQ1:=hQ.out
    have hA1:=hA.out
    subst hO1
    subst hQ1
    subst hA1
    have XE:=hX.out
    try simp only [jP,jA,jB,jC,jD,jE,jF]
    refine wpAnyH_ready (rs:=[2,5]) (by kernel_rfl) (by simp) ?_
    refine AllReadyH.cons (o:=_) rfl (fun K hK=>?_) (AllReadyH.cons (o:=_) rfl (fun K hK=>?_) AllReadyH.nil)
    ·skip
     go_simp
     go_at_call 24
     refine (HO.out _ _ _ p1.out).mono ?_
     rintro e wn ⟨vn,rfl,bn,on⟩
     go_wp2_with fail
     refine hK.out _ _ (KP.out _ (Ext.trans XE bn)) (fun _=>?_)
     clear hK K
     try simp only [jP,jA,jB,jC,jD,jE,jF]
     exact wpAnyH_at (L2_ wn v1 vn (Ext.trans XE bn) (p1.out.ext bn) (on)) (by kernel_rfl) (by kernel_rfl) (by kernel_rfl)
    ·skip
     go_simp
     refine hK.out _ _ (KP.out _ (Ext.trans XE (Ext.alloc _ _))) (fun _=>?_)
     clear hK K
     try simp only [jP,jA,jB,jC,jD,jE,jF]
     exact wpAnyH_at (L1_5 _ v1 wv.heap.size (Ext.trans XE (Ext.alloc wv (.cells [.slice none 0 0,.bool false,.slice none 0 0,.slice none 0 0,.int .i64 0].toArray 55))) (p1.out.ext (Ext.alloc wv (.cells [.slice none 0 0,.bool false,.slice none 0 0,.slice none 0 0,.int .i64 0].toArray 55))) (Rt.new wv [.slice none 0 0,.bool false,.slice none 0 0,.slice none 0 0,.int .i64 0] 55) (Below.size XE)) (by kernel_rfl) (by kernel_rfl) (by kernel_rfl)
   have L0_:∀ (wv:World),Hid (Ext w2 wv)→wpAnyH Tryz.prog .any O Q9 SS 6 #[true,false,false,false,false,false,false] AA wv:=by
    intro wv hX
    have hO1:=hO.out
    have hQ1:=hQ.out
    have hA1:=hA.out
    subst hO1
    subst hQ1
    subst hA1
    have XE:=hX.out
    try simp only [jP,jA,jB,jC,jD,jE,jF]
    refine wpAnyH_ready (rs:=[1,5]) (by kernel_rfl) (by simp) ?_
    refine AllReadyH.cons (o:=_) rfl (fun K hK=>?_) (AllReadyH.cons (o:=_) rfl (fun K hK=>?_) AllReadyH.nil)
    ·skip
     go_simp
     go_at_call 20
     refine (HI1.out _).mono ?_
     rintro e wn ⟨vn,rfl,bn,on⟩
     go_wp2_with fail
     refine hK.out _ _ (KP.out _ (Ext.trans XE bn)) (fun _=>?_)
     clear hK K
     try simp only [jP,jA,jB,jC,jD,jE,jF]
     exact wpAnyH_at (L1_ wn vn (Ext.trans XE bn) (on)) (by kernel_rfl) (by kernel_rfl) (by kernel_rfl)
    ·skip
     go_simp
     refine hK.out _ _ (KP.out _ (Ext.trans XE (Ext.alloc _ _))) (fun _=>?_)
     clear hK K
     try simp only [jP,jA,jB,jC,jD,jE,jF]
     exact wpAnyH_at (L0_5 _ wv.heap.size (Ext.trans XE (Ext.alloc wv (.cells [.slice none 0 0,.bool false,.slice none 0 0,.slice none 0 0,.int .i64 0].toArray 55))) (Rt.new wv [.slice none 0 0,.bool false,.slice none 0 0,.slice none 0 0,.int .i64 0] 55) (Below.size XE)) (by kernel_rfl) (by kernel_rfl) (by kernel_rfl)
   have hO1:=hO.out
   have hQ1:=hQ.out
   have hA1:=hA.out
   subst hO1
   subst hQ1
   subst hA1
   have hS1:=hSS.out
   subst hS1
   exact wpAnyH_at (L0_ w2.drew (drew_ext w2)) (by kernel_rfl) (by kernel_rfl) (by kernel_rfl)
 case rest=>
  as_aux_lemma=>
   obtain ⟨BA,x0,x1,x2,x3,rfl,b4,CA,OA⟩:=hcut
   generalize wc=w4 at*
   have C4:=Lib.hid (C2.out.ext b4)
   have HX4:=Lib.hid (HX2.out.ext b4)
   have SZ4:Hid (BX < w4.heap.size):=C4.out.lt
   have b04:=Ext.trans b1 (Ext.trans b2 b4)
   clear C2 HX2 SZ2
   go_upto_region 3 with (fail)
   go_cut [3] (fun s2 wx=>∃ (B:Nat) (x0 x1 x2 x3:Value),s2=.pointer (some ⟨B,0,none⟩)∧Ext w4 wx∧Hid (Bx wx B [x0,x1,x2,x3,.int .i64 1])∧Hid (OwnA wx (.agg #[x0,x1,x2,x3,.int .i64 1]) (([((0:Int),qm)],q2),1)))
   case first=>
    as_aux_lemma=>
     refine wp_region_noPanic ?_
     refine wp_region_held_drew (S:=fun w'=>w'.cell? ⟨BX,0,none⟩=some (.slice a 1 k)∧w'.cell? ⟨BX,1,none⟩=some (.bool s)∧w'.cell? ⟨BX,2,none⟩=some (.slice b m d)∧w'.cell? ⟨BX,3,none⟩=some (.slice b' m' d')) (by kernel_rfl) ((C4.out.ext (drew_ext w4)).c4) (fun hHeld=>?_)
     refine tkH 2 hHeld ?_
     simp only [jP,jA,jB,jC,jD,jE,jF]
     refine anyH_cap fun O Q9 AA hO hQ hA=>?_
     obtain ⟨SS,hSS⟩:∃ SS:World→Prop,Hid (SS=fun w'=>w'.cell? ⟨BX,0,none⟩=some (.slice a 1 k)∧w'.cell? ⟨BX,1,none⟩=some (.bool s)∧w'.cell? ⟨BX,2,none⟩=some (.slice b m d)∧w'.cell? ⟨BX,3,none⟩=some (.slice b' m' d')):=⟨_,rfl⟩
     have KP:Hid (∀ wv,Ext w4 wv→SS wv):=fun wv XE=>by rw [hSS.out];exact (C4.out.ext XE).c4
     have L4_5:∀ (wv:World) (v0 v1 v3 v4:Value) (B5:Nat),Hid (Ext w4 wv)→Hid (OwnQ 115 0 wv v0 q2)→Hid (OwnX 0 wv v1 [] q2)→Hid (OwnX 0 wv v3 [((0:Int),qm)] q2)→Hid (OwnA wv v4 (([((0:Int),qm)],q2),1))→Hid (Rt wv B5 5 55)→Hid (w4.heap.size≤B5)→wpAnyH Tryz.prog .any O Q9 SS 1 #[true,true,true,true,true,true,false] (((((AA.put (some 14) v0).put (some 15) v1).put (some 17) v3).put (some 18) v4).put (some 3) (.pointer (some ⟨B5,0,none⟩))) wv:=by
      intro wv v0 v1 v3 v4 B5 hX p0 p1 p3 p4 r5 s5
      have hO1:=hO.out
      have hQ1:=hQ.out
      have hA1:=hA.out
      subst hO1
      subst hQ1
      subst hA1
      have XE:=hX.out
      have hHeld:=KP.out _ XE
      have hS1:=hSS.out
      subst hS1
      try simp only [jP,jA,jB,jC,jD,jE,jF]
      have k0_5:BX≠B5:=by have h1:=s5.out;have hz0:=SZ4.out;omega
      obtain ⟨_,_,_,_,_,i5_0,i5_1,i5_2,i5_3,i5_4,f5_0,f5_1,f5_2,f5_3,f5_4⟩:=r5.out.c5
      obtain ⟨g0,g1,g2,g3,g4,g5,g6,g7,g8,rfl,-⟩:=p4.out.op
      have OA:=p4.out
      refine rdH 6 (by kernel_rfl) rfl (fun K hK=>?_)
      go_simp
      refine hK.out _ _ (((C4.out.ext XE).putL k0_5 0 [_,_,_,_,_]).c4) (fun hHeld=>?_)
      clear hK K
      try simp only [jP,jA,jB,jC,jD,jE,jF]
      refine wpAnyH_done (by kernel_rfl) ?_ _
      refine NoPanic.normal ?_
      go_wp2_with fail
      go_meet
      obtain ⟨W,hW,hM1,hM2,hM3⟩:=meet5 r5.out hX.out s5.out OA
      simp only [List.length_cons,List.length_nil,Nat.zero_add] at hW
      rw [← hW]
      exact ⟨B5,_,_,_,_,rfl,hM1,hM2,hM3⟩
     have L3_5:∀ (wv:World) (v0 v1 v3:Value) (B5:Nat),Hid (Ext w4 wv)→Hid (OwnQ 115 0 wv v0 q2)→Hid (OwnX 0 wv v1 [] q2)→Hid (OwnX 0 wv v3 [((0:Int),qm)] q2)→Hid (Rt wv B5 5 55)→Hid (w4.heap.size≤B5)→wpAnyH Tryz.prog .any O Q9 SS 2 #[true,true,true,true,false,true,false] ((((AA.put (some 14) v0).put (some 15) v1).put (some 17) v3).put (some 3) (.pointer (some ⟨B5,0,none⟩))) wv:=by
      intro wv v0 v1 v3 B5 hX p0 p1 p3 r5 s5
      have hO1:=hO.out
      have hQ1:=hQ.out
      have hA1:=hA.out
      subst hO1
      subst hQ1
      subst hA1
      have XE:=hX.out
      have hHeld:=KP.out _ XE
      have hS1:=hSS.out
      subst hS1
      try simp only [jP,jA,jB,jC,jD,jE,jF]
      obtain ⟨f0,f1,f2,f3,f4,f5,f6,f7,f8,rfl,-,-,OX⟩:=p3.out.op
      refine tkH 4 hHeld ?_
      simp only [jP,jA,jB,jC,jD,jE,jF]
      exact wpAnyH_at (L4_5 wv _ _ _ _ B5 hX.out p0.out p1.out p3.out (⟨_,_,_,_,rfl,p3.out⟩) r5.out s5.out) (by kernel_rfl) (by kernel_rfl) (by kernel_rfl)
     have L4_:∀ (wv:World) (v0 v1 v3 v4:Value),Hid (Ext w4 wv)→Hid (OwnQ 115 0 wv v0 q2)→Hid (OwnX 0 wv v1 [] q2)→Hid (OwnX 0 wv v3 [((0:Int),qm)] q2)→Hid (OwnA wv v4 (([((0:Int),qm)],q2),1))→wpAnyH Tryz.prog .any O Q9 SS 2 #[true,true,true,true,true,false,false] ((((AA.put (some 14) v0).put (some 15) v1).put (some 17) v3).put (some 18) v4) wv:=by
      intro wv v0 v1 v3 v4 hX p0 p1 p3 p4
      have hO1:=hO.out
      have hQ1:=hQ.out
      have hA1:=hA.out
      subst hO1
      subst hQ1
      subst hA1
      have XE:=hX.out
      try simp only [jP,jA,jB,jC,jD,jE,jF]
      refine rdH 5 (by kernel_rfl) rfl (fun K hK=>?_)
      go_simp
      refine hK.out _ _ (KP.out _ (Ext.trans XE (Ext.alloc _ _))) (fun _=>?_)
      clear hK K
      try simp only [jP,jA,jB,jC,jD,jE,jF]
      exact wpAnyH_at (L4_5 _ v0 v1 v3 v4 wv.heap.size (Ext.trans XE (Ext.alloc wv (.cells [.slice none 0 0,.bool false,.slice none 0 0,.slice none 0 0,.int .i64 0].toArray 55))) (p0.out.ext (Ext.alloc wv (.cells [.slice none 0 0,.bool false,.slice none 0 0,.slice none 0 0,.int .i64 0].toArray 55))) (p1.out.ext (Ext.alloc wv (.cells [.slice none 0 0,.bool false,.slice none 0 0,.slice none 0 0,.int .i64 0].toArray 55))) (p3.out.ext (Ext.alloc wv (.cells [.slice none 0 0,.bool false,.slice none 0 0,.slice none 0 0,.int .i64 0].toArray 55))) (p4.out.ext (Ext.alloc wv (.cells [.slice none 0 0,.bool false,.slice none 0 0,.slice none 0 0,.int .i64 0].toArray 55))) (Rt.new wv [.slice none 0 0,.bool false,.slice none 0 0,.slice none 0 0,.int .i64 0] 55) (Below.size XE)) (by kernel_rfl) (by kernel_rfl) (by kernel_rfl)
     have L2_5:∀ (wv:World) (v0 v1:Value) (B5:Nat),Hid (Ext w4 wv)→Hid (OwnQ 115 0 wv v0 q2)→Hid (OwnX 0 wv v1 [] q2)→Hid (Rt wv B5 5 55)→Hid (w4.heap.size≤B5)→wpAnyH Tryz.prog .any O Q9 SS 3 #[true,true,true,false,false,true,false] (((AA.put (some 14) v0).put (some 15) v1).put (some 3) (.pointer (some ⟨B5,0,none⟩))) wv:=by
      intro wv v0 v1 B5 hX p0 p1 r5 s5
      have hO1:=hO.out
      have hQ1:=hQ.out
      have hA1:=hA.out
      subst hO1
      subst hQ1
      subst hA1
      have XE:=hX.out
      try simp only [jP,jA,jB,jC,jD,jE,jF]
      refine rdH 3 (by kernel_rfl) rfl (fun K hK=>?_)
      go_simp
      go_at_call 27
      refine (HSB.out _ _ _ p1.out.rd (HX4.out.ext XE)).mono ?_
      rintro e wn ⟨vn,rfl,bn,on⟩
      go_wp2_with fail
      refine hK.out _ _ (KP.out _ (Ext.trans XE bn)) (fun _=>?_)
      clear hK K
      try simp only [jP,jA,jB,jC,jD,jE,jF]
      exact wpAnyH_at (L3_5 wn v0 v1 vn B5 (Ext.trans XE bn) (p0.out.ext bn) (p1.out.ext bn) (on) (r5.out.ext bn) s5) (by kernel_rfl) (by kernel_rfl) (by kernel_rfl)
     have L3_:∀ (wv:World) (v0 v1 v3:Value),Hid (Ext w4 wv)→Hid (OwnQ 115 0 wv v0 q2)→Hid (OwnX 0 wv v1 [] q2)→Hid (OwnX 0 wv v3 [((0:Int),qm)] q2)→wpAnyH Tryz.prog .any O Q9 SS 3 #[true,true,true,true,false,false,false] (((AA.put (some 14) v0).put (some 15) v1).put (some 17) v3) wv:=by
      intro wv v0 v1 v3 hX p0 p1 p3
      have hO1:=hO.out
      have hQ1:=hQ.out
      have hA1:=hA.out
      subst hO1
      subst hQ1
      subst hA1
      have XE:=hX.out
      have hHeld:=KP.out _ XE
      have hS1:=hSS.out
      subst hS1
      try simp only [jP,jA,jB,jC,jD,jE,jF]
      obtain ⟨f0,f1,f2,f3,f4,f5,f6,f7,f8,rfl,-,-,OX⟩:=p3.out.op
      refine tkH 4 hHeld ?_
      simp only [jP,jA,jB,jC,jD,jE,jF]
      exact wpAnyH_at (L4_ wv _ _ _ _ hX.out p0.out p1.out p3.out (⟨_,_,_,_,rfl,p3.out⟩)) (by kernel_rfl) (by kernel_rfl) (by kernel_rfl)
     have L1_5:∀ (wv:World) (v0:Value) (B5:Nat),Hid (Ext w4 wv)→Hid (OwnQ 115 0 wv v0 q2)→Hid (Rt wv B5 5 55)→Hid (w4.heap.size≤B5)→wpAnyH Tryz.prog .any O Q9 SS 4 #[true,false,true,false,false,true,false] ((AA.put (some 14) v0).put (some 3) (.pointer (some ⟨B5,0,none⟩))) wv:=by
      intro wv v0 B5 hX p0 r5 s5
      have hO1:=hO.out
      have hQ1:=hQ.out
      have hA1:=hA.out
      subst hO1
      subst hQ1
      subst hA1
      have XE:=hX.out
      try simp only [jP,jA,jB,jC,jD,jE,jF]
      refine rdH 1 (by kernel_rfl) rfl (fun K hK=>?_)
      go_simp
      go_at_call 24
      refine (HO.out _ _ _ p0.out).mono ?_
      rintro e wn ⟨vn,rfl,bn,on⟩
      go_wp2_with fail
      refine hK.out _ _ (KP.out _ (Ext.trans XE bn)) (fun _=>?_)
      clear hK K
      try simp only [jP,jA,jB,jC,jD,jE,jF]
      exact wpAnyH_at (L2_5 wn v0 vn B5 (Ext.trans XE bn) (p0.out.ext bn) (on) (r5.out.ext bn) s5) (by kernel_rfl) (by kernel_rfl) (by kernel_rfl)
     have L2_:∀ (wv:World) (v0 v1:Value),Hid (Ext w4 wv)→Hid (OwnQ 115 0 wv v0 q2)→Hid (OwnX 0 wv v1 [] q2)→wpAnyH Tryz.prog .any O Q9 SS 4 #[true,true,true,false,false,false,false] ((AA.put (some 14) v0).put (some 15) v1) wv:=by
      intro wv v0 v1 hX p0 p1
      have hO1:=hO.out
      have hQ1:=hQ.out
      have hA1:=hA.out
      subst hO1
      subst hQ1
      subst hA1
      have XE:=hX.out
      try simp only [jP,jA,jB,jC,jD,jE,jF]
      refine wpAnyH_ready (rs:=[3,5]) (by kernel_rfl) (by simp) ?_
      refine AllReadyH.cons (o:=_) rfl (fun K hK=>?_) (AllReadyH.cons (o:=_) rfl (fun K hK=>?_) AllReadyH.nil)
      ·skip
       go_simp
       go_at_call 27
       refine (HSB.out _ _ _ p1.out.rd (HX4.out.ext XE)).mono ?_
       rintro e wn ⟨vn,rfl,bn,on⟩
       go_wp2_with fail
       refine hK.out _ _ (KP.out _ (Ext.trans XE bn)) (fun _=>?_)
       clear hK K
       try simp only [jP,jA,jB,jC,jD,jE,jF]
       exact wpAnyH_at (L3_ wn v0 v1 vn (Ext.trans XE bn) (p0.out.ext bn) (p1.out.ext bn) (on)) (by kernel_rfl) (by kernel_rfl) (by kernel_rfl)
      ·skip
       go_simp
       refine hK.out _ _ (KP.out _ (Ext.trans XE (Ext.alloc _ _))) (fun _=>?_)
       clear hK K
       try simp only [jP,jA,jB,jC,jD,jE,jF]
       exact wpAnyH_at (L2_5 _ v0 v1 wv.heap.size (Ext.trans XE (Ext.alloc wv (.cells [.slice none 0 0,.bool false,.slice none 0 0,.slice none 0 0,.int .i64 0].toArray 55))) (p0.out.ext (Ext.alloc wv (.cells [.slice none 0 0,.bool false,.slice none 0 0,.slice none 0 0,.int .i64 0].toArray 55))) (p1.out.ext (Ext.alloc wv (.cells [.slice none 0 0,.bool false,.slice none 0 0,.slice none 0 0,.int .i64 0].toArray 55))) (Rt.new wv [.slice none 0 0,.bool false,.slice none 0 0,.slice none 0 0,.int .i64 0] 55) (Below.size XE)) (by kernel_rfl) (by kernel_rfl) (by kernel_rfl)
     have L0_5:∀ (wv:World) (B5:Nat),Hid (Ext w4 wv)→Hid (Rt wv B5 5 55)→Hid (w4.heap.size≤B5)→wpAnyH Tryz.prog .any O Q9 SS 5 #[false,false,true,false,false,true,false] (AA.put (some 3) (.pointer (some ⟨B5,0,none⟩))) wv:=by
      intro wv B5 hX r5 s5
      have hO1:=hO.out
      have hQ1:=hQ.out
      have hA1:=hA.out
      subst hO1
      subst hQ1
      subst hA1
      have XE:=hX.out
      try simp only [jP,jA,jB,jC,jD,jE,jF]
      refine rdH 0 (by kernel_rfl) rfl (fun K hK=>?_)
      go_simp
      go_at_call 20
      refine (HI2.out _).mono ?_
      rintro e wn ⟨vn,rfl,bn,on⟩
      go_wp2_with fail
      refine hK.out _ _ (KP.out _ (Ext.trans XE bn)) (fun _=>?_)
      clear hK K
      try simp only [jP,jA,jB,jC,jD,jE,jF]
      exact wpAnyH_at (L1_5 wn vn B5 (Ext.trans XE bn) (on) (r5.out.ext bn) s5) (by kernel_rfl) (by kernel_rfl) (by kernel_rfl)
     have L1_:∀ (wv:World) (v0:Value),Hid (Ext w4 wv)→Hid (OwnQ 115 0 wv v0 q2)→wpAnyH Tryz.prog .any O Q9 SS 5 #[true,false,true,false,false,false,false] (AA.put (some 14) v0) wv:=by
      intro wv v0 hX p0
      have hO1:=hO.out
      have hQ1:=hQ.out
      have hA1:=hA.out
      subst hO1
      subst hQ1
      subst hA1
      have XE:=hX.out
      try simp only [jP,jA,jB,jC,jD,jE,jF]
      refine wpAnyH_ready (rs:=[1,5]) (by kernel_rfl) (by simp) ?_
      refine AllReadyH.cons (o:=_) rfl (fun K hK=>?_) (AllReadyH.cons (o:=_) rfl (fun K hK=>?_) AllReadyH.nil)
      ·skip
       go_simp
       go_at_call 24
       refine (HO.out _ _ _ p0.out).mono ?_
       rintro e wn ⟨vn,rfl,bn,on⟩
       go_wp2_with fail
       refine hK.out _ _ (KP.out _ (Ext.trans XE bn)) (fun _=>?_)
       clear hK K
       try simp only [jP,jA,jB,jC,jD,jE,jF]
       exact wpAnyH_at (L2_ wn v0 vn (Ext.trans XE bn) (p0.out.ext bn) (on)) (by kernel_rfl) (by kernel_rfl) (by kernel_rfl)
      ·skip
       go_simp
       refine hK.out _ _ (KP.out _ (Ext.trans XE (Ext.alloc _ _))) (fun _=>?_)
       clear hK K
       try simp only [jP,jA,jB,jC,jD,jE,jF]
       exact wpAnyH_at (L1_5 _ v0 wv.heap.size (Ext.trans XE (Ext.alloc wv (.cells [.slice none 0 0,.bool false,.slice none 0 0,.slice none 0 0,.int .i64 0].toArray 55))) (p0.out.ext (Ext.alloc wv (.cells [.slice none 0 0,.bool false,.slice none 0 0,.slice none 0 0,.int .i64 0].toArray 55))) (Rt.new wv [.slice none 0 0,.bool false,.slice none 0 0,.slice none 0 0,.int .i64 0] 55) (Below.size XE)) (by kernel_rfl) (by kernel_rfl) (by kernel_rfl)
     have L0_:∀ (wv:World),Hid (Ext w4 wv)→wpAnyH Tryz.prog .any O Q9 SS 6 #[false,false,true,false,false,false,false] AA wv:=by
      intro wv hX
      have hO1:=hO.out
      have hQ1:=hQ.out
      have hA1:=hA.out
      subst hO1
      subst hQ1
      subst hA1
      have XE:=hX.out
      try simp only [jP,jA,jB,jC,jD,jE,jF]
      refine wpAnyH_ready (rs:=[0,5]) (by kernel_rfl) (by simp) ?_
      refine AllReadyH.cons (o:=_) rfl (fun K hK=>?_) (AllReadyH.cons (o:=_) rfl (fun K hK=>?_) AllReadyH.nil)
      ·skip
       go_simp
       go_at_call 20
       refine (HI2.out _).mono ?_
       rintro e wn ⟨vn,rfl,bn,on⟩
       go_wp2_with fail
       refine hK.out _ _ (KP.out _ (Ext.trans XE bn)) (fun _=>?_)
       clear hK K
       try simp only [jP,jA,jB,jC,jD,jE,jF]
       exact wpAnyH_at (L1_ wn vn (Ext.trans XE bn) (on)) (by kernel_rfl) (by kernel_rfl) (by kernel_rfl)
      ·skip
       go_simp
       refine hK.out _ _ (KP.out _ (Ext.trans XE (Ext.alloc _ _))) (fun _=>?_)
       clear hK K
       try simp only [jP,jA,jB,jC,jD,jE,jF]
       exact wpAnyH_at (L0_5 _ wv.heap.size (Ext.trans XE (Ext.alloc wv (.cells [.slice none 0 0,.bool false,.slice none 0 0,.slice none 0 0,.int .i64 0].toArray 55))) (Rt.new wv [.slice none 0 0,.bool false,.slice none 0 0,.slice none 0 0,.int .i64 0] 55) (Below.size XE)) (by kernel_rfl) (by kernel_rfl) (by kernel_rfl)
     have hO1:=hO.out
     have hQ1:=hQ.out
     have hA1:=hA.out
     subst hO1
     subst hQ1
     subst hA1
     have hS1:=hSS.out
     subst hS1
     exact wpAnyH_at (L0_ w4.drew (drew_ext w4)) (by kernel_rfl) (by kernel_rfl) (by kernel_rfl)
   case rest=>
    as_aux_lemma=>
     obtain ⟨BB,y0,y1,y2,y3,rfl,b5,CB5,OB5⟩:=hcut
     generalize wc=w5 at*
     have CA5:=Lib.hid (CA.out.ext b5)
     have OA5:=Lib.hid (HAA.out _ _ _ _ _ (OwnAt.ext OA.out b5))
     have OB6:=Lib.hid (HAB.out _ _ _ _ _ OB5.out)
     have b05:=Ext.trans b04 b5
     clear CA OA C4 HX4 SZ4 OB5 HAA HAB HV HI1 HI2 HO HSA HSB
     go_upto_region 4 with (fail)
     obtain ⟨k0,k1,k2,k3,k4⟩:=CA5.out.c5
     obtain ⟨l0,l1,l2,l3,l4⟩:=CB5.out.c5
     go_wp2_with (refine build2W etAw (by rfl) (by rfl) (T:=OwnA) OwnAt.ext (by rfl) (by rfl) [x0,x1,x2,x3,.int .i64 1] [y0,y1,y2,y3,.int .i64 1] (fill_a2 ..) rfl rfl (by decide) OA5.out OB6.out ?_;intro g6 w6 x6 _ l6;have L6:=Lib.hid l6;clear l6)
     refine (HS2.out _ _ L6.out.rd).mono ?_
     rintro e w7 ⟨_,rfl,b7,vp,vt,P,T,rfl,op,ot,hs⟩
     obtain ⟨ap,kp,rfl,-,-⟩:=op.rd.shape
     obtain ⟨at7,kt,rfl,-,-⟩:=ot.rd.shape
     have OP:=Lib.hid op
     have OT:=Lib.hid ot
     have HS:=Lib.hid hs
     have x57:=Ext.trans x6 b7
     obtain ⟨np,hnp⟩:∃ n,n=P.length:=⟨_,rfl⟩
     obtain ⟨nt,hnt⟩:∃ n,n=T.length:=⟨_,rfl⟩
     rw [← hnp] at OP ⊢
     rw [← hnt] at OT ⊢
     clear op ot hs hnp hnt k0 k1 k2 k3 k4 l0 l1 l2 l3 l4 L6
     obtain ⟨w8,hw8,b8,c8,-,-⟩:=bx1 w7 [.bool false,.slice ap np kp,.slice at7 nt kt] 35
     have HW:=Lib.hid hw8
     have C8:=Lib.hid c8
     have OP8:=Lib.hid (OP.out.rd.ext OwnQ.ext b8)
     have OT8:=Lib.hid (OT.out.rd.ext OwnQ.ext b8)
     have x58:=Ext.trans x57 b8
     clear hw8 c8 OP OT
     go_upto_region 5 with (fail)
     rw [← HW.out]
     clear HW
     obtain ⟨e8,he8⟩:∃ e,e=w7.heap.size:=⟨_,rfl⟩
     rw [← he8] at C8 ⊢
     clear he8 b7 b8 x57
     obtain ⟨k0,k1,k2,k3,k4⟩:=(CA5.out.ext x58).c5
     go_wp2_with (refine build1W etAw (by rfl) (by rfl) (T:=OwnA) OwnAt.ext (by rfl) [x0,x1,x2,x3,.int .i64 1] (fill_a1 ..) rfl (by decide) (OwnAt.ext OA5.out x58) ?_;intro g9 w9 x9 _ l9;have L9:=Lib.hid l9;clear l9)
     refine (HS1.out _ _ L9.out.rd).mono ?_
     rintro e w10 ⟨_,rfl,b10,vp',vt',P',T',rfl,op,ot,hs⟩
     obtain ⟨ap',kp',rfl,-,-⟩:=op.rd.shape
     obtain ⟨at10,kt',rfl,-,-⟩:=ot.rd.shape
     have OP':=Lib.hid op
     have OT':=Lib.hid ot
     have HS':=Lib.hid hs
     obtain ⟨np',hnp⟩:∃ n,n=P'.length:=⟨_,rfl⟩
     obtain ⟨nt',hnt⟩:∃ n,n=T'.length:=⟨_,rfl⟩
     rw [← hnp] at OP' ⊢
     rw [← hnt] at OT' ⊢
     clear op ot hs hnp hnt k0 k1 k2 k3 k4 L9
     obtain ⟨w11,hw11,b11,c11,-,-⟩:=bx1 w10 [.bool true,.slice ap' np' kp',.slice at10 nt' kt'] 35
     have HW:=Lib.hid hw11
     have D11:=Lib.hid c11
     have x811:=Ext.trans x9 (Ext.trans b10 b11)
     have x511:=Ext.trans x58 x811
     have C11:=Lib.hid (C8.out.ext x811)
     have OPa:=Lib.hid (OP8.out.ext OwnQ.ext x811)
     have OTa:=Lib.hid (OT8.out.ext OwnQ.ext x811)
     have OPb:=Lib.hid (OP'.out.rd.ext OwnQ.ext b11)
     have OTb:=Lib.hid (OT'.out.rd.ext OwnQ.ext b11)
     have KA:=Lib.hid (CA5.out.ext x511)
     have KB:=Lib.hid (CB5.out.ext x511)
     have LA:=Lib.hid (OwnAt.ext OA5.out x511)
     have LB:=Lib.hid (OwnAt.ext OB6.out x511)
     have x11:=Ext.trans b05 x511
     clear hw11 c11 OP' OT' OP8 OT8 C8 CA5 CB5 OA5 OB6
     go_upto_region 6 with (fail)
     rw [← HW.out]
     clear HW
     obtain ⟨e11,he11⟩:∃ e,e=w10.heap.size:=⟨_,rfl⟩
     rw [← he11] at D11 ⊢
     clear he11 b10 b11 x9 x58 x511 x811
     obtain ⟨k0,k1,k2,k3,k4⟩:=KA.out.c5
     obtain ⟨l0,l1,l2,l3,l4⟩:=KB.out.c5
     obtain ⟨c0,c1,c2⟩:=C11.out.c3
     obtain ⟨d0,d1,d2⟩:=D11.out.c3
     go_wp2_with (refine build2W etAw (by rfl) (by rfl) (T:=OwnA) OwnAt.ext (by rfl) (by rfl) [x0,x1,x2,x3,.int .i64 1] [y0,y1,y2,y3,.int .i64 1] (fill_a2 ..) rfl rfl (by decide) LA.out LB.out ?_;intro g12 w12 x12 _ l12;have L12:=Lib.hid l12;clear l12;obtain ⟨c0,c1,c2⟩:=(C11.out.ext x12).c3)
     refine (HR2.out _ _ _ _ P T L12.out.rd (OPa.out.ext OwnQ.ext x12) (OTa.out.ext OwnQ.ext x12) HS.out).mono ?_
     rintro e w13 ⟨_,rfl,b13,rfl⟩
     have x13:=Ext.trans x12 b13
     clear k0 k1 k2 k3 k4 l0 l1 l2 l3 l4 c0 c1 c2 d0 d1 d2
     obtain ⟨k0,k1,k2,k3,k4⟩:=(KA.out.ext x13).c5
     go_wp2_with (refine build1W etAw (by rfl) (by rfl) (T:=OwnA) OwnAt.ext (by rfl) [x0,x1,x2,x3,.int .i64 1] (fill_a1 ..) rfl (by decide) (OwnAt.ext LA.out x13) ?_;intro g14 w14 x14 _ l14;have L14:=Lib.hid l14;clear l14;obtain ⟨d0,d1,d2⟩:=(D11.out.ext (Ext.trans x13 x14)).c3)
     refine (HR1.out _ _ _ _ P' T' L14.out.rd (OPb.out.ext OwnQ.ext (Ext.trans x13 x14)) (OTb.out.ext OwnQ.ext (Ext.trans x13 x14)) HS'.out).mono ?_
     rintro e w15 ⟨_,rfl,b15,rfl⟩
     go_wp2_with fail
     exact hR.out _ _ (Gives.mk (Ext.trans x11 (Ext.trans x13 (Ext.trans x14 b15))) rfl)
end Go.Proofs.YthpaifdfafjlcaaGreat
